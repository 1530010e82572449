/- Part 4 of what stands behind these statements: laws and walks of the functions that are reached. Conditions: those that each theorem names. -/
import Derived.Test.YtfpekahfdalfkaaGreatDoorA3
set_option linter.unusedVariables false
set_option linter.unusedSimpArgs false
namespace Go.Proofs.YtfpekahfdalfkaaGreatDoor
open _root_.Go renaming World → AaS, TypeId → AaZ, Edge → AbP, Operand → Aa5, Value → AaR, Program → Abo, Code → Ac7, Exit → AdA, Oper → Abi, Func → AdH, Ending → Adc, FuncId → AcF, binOp → Abt
open _root_.Go.Instr renaming build → AcJ, buildSlice → Abz
open _root_.Go.Proofs.Tryz renaming prog → AaU
open _root_.Go.Value renaming int → AcM, bool → AbA, slice → Aa0, ownBlock → Aa1
open _root_.Go.Lib renaming byteCells → AaT, compareBytes → Abl, byteCells_length → Aa8
open _root_.List renaming replicate → Aa4, length_take → Abg, length_replicate → Abc, length_drop → Abf, mem_singleton → Aa6, length_cons → Abp, length_nil → Abw, map_append → Acj, length_append → AaY, getD_eq_getElem?_getD → AaW, getElem?_eq_getElem → Aa2, getElem_mem → Acp, mem_append → Abk, drop_zero → Adk, mem_cons → AbF, not_mem_nil → AcN, getElem?_eq_some_iff → Abn, getElem?_map → AcB, length_map → Abh, range → Ab6, all_eq_true → AbE, mem_map → AbD, getElem_of_mem → Aco, size_toArray → Abe, getElem?_toArray → AbT, getElem?_eq_none → Ab3, getElem?_cons_succ → Acr, getElem?_cons_zero → Adh, mem_of_getElem? → Ab0, mem_flatMap → AfR, map_toArray → Abx, map_cons → Abv, map_nil → AbG, toArray → Acn
open _root_.Prod renaming fst → Abq
open _root_.Nat renaming zero_le → Abs, le_trans → AaV, le_refl → AaX, add_assoc → Ac5, add_comm → AeD, zero_add → Ab9, strongRecOn → Adr, not_lt_zero → Acx, blt → Ac3, le_of_ble_eq_true → Aa9, beq → Adj, beq_refl → AeG, ble → Afk
open _root_.And renaming intro → Aby
open _root_.Int renaming toNat_natCast → Aba
open _root_.UInt8 renaming toNat_inj → Aes
open _root_.Go.MapKept renaming IsKey → Aem
open _root_.Go.World renaming cell? → Ade, cell?_spot → AdI, drew → AeK, block_lt_of_cell? → Ach
open _root_.Go.Addr renaming add → AcU
open _root_.Go.Oper renaming wp → AdF, upon → AdU
open _root_.Go.Calls renaming mono → AdV
open _root_.Array renaming replicate → AcC, getD_eq_getD_getElem? → AbI, getElem?_append → Ae1, getElem?_replicate → Acm
open _root_.Go.Region renaming wanted → Acf
open _root_.Go.Result renaming andThen → AbM
open _root_.Go.Op renaming equal → Aez, maxDepth → Age, equalIn → Agq
open _root_.Go.Deferred renaming ofValue → AdG
open _root_.Bool renaming not_eq_true → AeV
open _root_.Option renaming bind_some → Ac6
open _root_.Go.RowKit.Below renaming refl → AbJ
open _root_.Option.some renaming inj → AbB
open _root_.Go.Sem renaming run_bind → Aa7, run_pure → Abb
open Go.RowKit
set_option maxRecDepth 100000
set_option maxHeartbeats 1600000
theorem Hu(z0:Int)(z1:Bool)(w:AaS):(AcJ 208 #[(0, .int .i64 z0),(1, .bool z1)]).run AaU w = .ok (.agg (AcM .i64 z0 :: AbA z1 :: (AaT (Aa4 32 0)++ [Aa0 none 0 0])).toArray) w:=by kernel_rfl
theorem Hv{d:Option Tmp}{ty:AaZ}{pos:String}{af:Array AbP}{gd:Option (Nat × Bool)}(σ:Aa5→AaR)(w:AaS):(execOp σ ⟨d, .alloc 208,ty,pos,af,gd⟩).run AaU w = .ok (.value (PQ w.heap.size 0)) (w.alloc (.cells (entC dEnt).toArray 208)):=by kernel_rfl
theorem Ey:(Tryz.prog.info? 208).map (·.size)=some 35:=by kernel_rfl
theorem F9:A2 AaU 208 1 1:=fun b o w=>by simp[go_sem]
theorem JI:Tryz.prog.underlying 4=some (.bool):=by kernel_rfl
theorem Kr:Plain AaU 171:=fun _ _=>by kernel_rfl
theorem Nk:A2 AaU 208 2 2:=fun b o w=>by simp[go_sem]
theorem Ks:Plain AaU 172:=fun _ _=>by kernel_rfl
theorem Iu:A2 AaU 208 3 34:=fun b o w=>by simp[go_sem]
theorem Ku:∃fs,Tryz.prog.underlying 208=some (.struct fs):=Fo (by kernel_rfl)
theorem P6(c0 c1 c2 c3 c4 c5 c6 c7 c8 c9 c10 c11 c12 c13 c14 c15 c16 c17 c18 c19 c20 c21 c22 c23 c24 c25 c26 c27 c28 c29 c30 c31 c32 c33 c34:AaR)(w:AaS):(Abz 200 1 #[(0, .agg #[c0,c1,c2,c3,c4,c5,c6,c7,c8,c9,c10,c11,c12,c13,c14,c15,c16,c17,c18,c19,c20,c21,c22,c23,c24,c25,c26,c27,c28,c29,c30,c31,c32,c33,c34])]).run AaU w = .ok (.slice (some ⟨w.heap.size,0,none⟩) 1 1) (w.alloc (.cells #[c0,c1,c2,c3,c4,c5,c6,c7,c8,c9,c10,c11,c12,c13,c14,c15,c16,c17,c18,c19,c20,c21,c22,c23,c24,c25,c26,c27,c28,c29,c30,c31,c32,c33,c34] 208)):=by kernel_rfl
theorem Kv:∀(cs:Array AaR),cs.size=35→∀w:AaS,(Abz 200 1 #[(0, .agg cs)]).run AaU w = .ok (.slice (some ⟨w.heap.size,0,none⟩) 1 1) (w.alloc (.cells cs 208))
 | ⟨c0 :: c1 :: c2 :: c3 :: c4 :: c5 :: c6 :: c7 :: c8 :: c9 :: c10 :: c11 :: c12 :: c13 :: c14 :: c15 :: c16 :: c17 :: c18 :: c19 :: c20 :: c21 :: c22 :: c23 :: c24 :: c25 :: c26 :: c27 :: c28 :: c29 :: c30 :: c31 :: c32 :: c33 :: c34 :: []⟩,_,w=>P6 c0 c1 c2 c3 c4 c5 c6 c7 c8 c9 c10 c11 c12 c13 c14 c15 c16 c17 c18 c19 c20 c21 c22 c23 c24 c25 c26 c27 c28 c29 c30 c31 c32 c33 c34 w
theorem pk12_ig208:∃z,(Tryz.prog.info? 208).map (fun i=>(i.zero,i.size,i.bytes))=some (some z,35,72)∧z.cells.size=35:=E6 (by kernel_rfl)
theorem FQ:Tryz.prog.underlying 200=some (.slice 208):=by kernel_rfl
theorem Ov(w:AaS)(v:AaR)(b:Bs)(hr:RB w v b)(n first fin:Nat)(hff:first≤fin)(hf:fin≤b.length)(hn:n≤1048576)(hb:b.length≤1048576):
  Calls AaU 130 #[v,NI n,NI first,NI fin] w fun r w' =>(∃x,r = .returned x∧∃es:List Ag,Ct b n first fin=some (es.map Abq)∧RG 35 entC w' x es∧EntsOk w' es∧(∀x∈es,NewV w.heap.size x.2)∧Ext w w')∨∃ch,r = .panicked ch∧Ct b n first fin=none∧ch= [CO 6]∧Ext w w' :=by
 refine gG (args:= [v,NI n,NI first,NI fin]) Tryz.func130 rfl 77 rfl rfl ?_;have hE:=Ext.refl w;have hen0:OG w.heap.size 208 35 entC w (Aa0 none 0 0) ([]:List Ag):=OG.nil _ _ _ _ _;refine gL (fun(ρ:Ad) (wz:AaS)=>∃i:Nat,∃es:List Ag,∃p:Nat,∃va:AaR,ρ 0=(v:AaR)∧ρ 1=(NI n:AaR)∧ρ 3=(NI fin:AaR)∧ρ 8=((Aa0 none 0 0):AaR)∧ρ 16=(NI n:AaR)∧ρ 17=(NI i:AaR)∧ρ 2=(NI p:AaR)∧ρ 9=(va:AaR)∧Ext w wz∧EntsIn wz va es∧OG w.heap.size 208 35 (entC) wz va (es)∧(C9 b fin first i=some (es.map Abq,p))∧(i≤n)∧(p≤fin)∧(es.length=i)∧(∀x∈es,NewV w.heap.size x.2)∧True) (fun ρ _=>n-(intOf (ρ 17)).toNat) ⟨0,[],first,(Aa0 none 0 0),rfl,rfl,rfl,rfl,rfl,rfl,rfl,rfl,hE,EntsIn.nil _ _,Bz hen0 (rfl),rfl,Abs _,by omega,rfl,(fun x hx=>by cases hx),trivial⟩ ?_;clear hen0;clear hE;rintro be w6 ⟨i,es,p,va,u,T1,z,T8,a5,ao,g,T9,hE,hEn,hr_va,hs,hi,hp,hil,hnw,-⟩;have q17:=ao;refine gS (XK (a:=(i:Nat)) (b:=(n:Nat)) ao a5 (AL _ _ _ _) ?_);refine cD rfl (fun bh=> ?_) fun bh=> ?_
 ·have hil0:i<n:=bh;have hst:=Hs hs;have hlen:(b.take fin).length=fin:=by rw[Abg];omega
  by_cases hlt:p<fin
  ·by_cases hle:(b.getD p 0).toNat≤1
   ·have hO1:=RY ⟨hlt,hle⟩;by_cases h1:b.getD p 0=1
    ·rw[if_pos h1]at hO1;have h1n:(b.getD p 0).toNat=1:=by rw[h1];rfl
     by_cases hg:fin-(p+1)<32
     ·rw[if_pos hg]at hO1;refine gS (XK (a:=(p:Nat)) (b:=(fin:Nat)) g z (AL _ _ _ _) (kT (hlt) (gS (X7 (l:=b) (i:=p) F5 PG (XP (hr.keep hE) u) g (by omega) fun dr bi=>(gS (X0 u5 rfl (X6 bi rfl) (gS (XK (a:=((b.getD (p) 0).toNat:Nat)) (b:=(1:Nat)) rfl rfl (Dw _ _ _ _) (kT (hle) (gS (XR rfl rfl (gP (XZ FP rfl rfl ?_)))))))))))));refine Ap (AS _ (true) 6) ?_ ?_;rotate_left
      ·rintro ch ds ⟨rfl,hb,hx⟩;refine As ?_;cases hb
      rintro v_ bj ⟨rfl,dt,bk⟩;have hEn:EntsIn bj va es:=(hEn.keep bk);clear bi;have hE:=hE.trans bk;refine gS (X7 (l:=b) (i:=p) F5 PG (XP (hr.keep hE) u) g (by omega) fun du bm=>(gS (X0 u5 rfl (X6 bm rfl) (gS (XK (a:=((b.getD (p) 0).toNat:Nat)) (b:=(1:Nat)) rfl rfl (AA _ _ _ _) (kT (h1n) (gS (Yx g (vr (.bool (true)) rfl) (fun w=>Hu (p:Int) true w) (gS (Yk.alloc Hv fun bn co dv bo cp dw=> ?_))))))))));have ad:=Ext.refl bj;have dx:=hE.size;have ab:=bo;clear bo;have dy:bn<co.heap.size:=by omega
      refine gS (XN (vr (PQ bn 0) rfl) (vr (.agg (entC ((⟨p,true,Aa4 32 0,[]⟩, .slice none 0 0))).toArray) rfl) ab (Bo (x:=((⟨p,true,Aa4 32 0,[]⟩, .slice none 0 0):Ag)) (y:=dEnt) (by simp) (by simp[dEnt])) (Bc (x:=((⟨p,true,Aa4 32 0,[]⟩, .slice none 0 0):Ag)) Ey (by simp)) (Bw (x:=((⟨p,true,Aa4 32 0,[]⟩, .slice none 0 0):Ag)) rfl) fun dz bp cq d0=> ?_);clear ab;have ab:=bp;clear bp;have d1:=bl ab;clear bm;have ad:=ad.trans cp;have ad:=Ab ad cq (AaV (AaX _) (by omega));have hE:=hE.trans ad;refine gS (XL (xv:=NI p) (yv:=NI 1) g rfl rfl (Ai _ _ _ (by omega)) (gS (Yk.fieldAt F9 rfl (gS (XJ JI rfl rfl (cellAt ab (show(entC ((⟨p,true,Aa4 32 0,[]⟩, .slice none 0 0)))[1]? =some (.bool (true):AaR)from rfl)) (cT rfl (gS (Yv (xs:=b) (n:=fin) F5 PG u (hr.keep hE) z (by omega) fun cr cs ha44=>(gS (XM Kr rfl rfl ?_))))))))));refine((show Calls _ _ _ _ (fun e w2=>e = .returned (.tuple #[AB zero32,NI 0,NI 6])∧Ext _ w2)from(Jz _ cr (b.take fin) cs (p+1) (by omega)).mono fun e w2 ⟨h1,h2⟩=>by subst h1;refine⟨?_,h2⟩;unfold DW;rw[hlen];rw[if_pos (by omega)];rfl)).mono ?_;rintro e d2 ⟨rfl,a6⟩;refine⟨_,rfl,?_⟩;refine gS (Yk.extract (vs:= [AB zero32,NI 0,NI 6]) rfl rfl (gS (Yk.extract (vs:= [AB zero32,NI 0,NI 6]) rfl rfl (gS (Yk.extract (vs:= [AB zero32,NI 0,NI 6]) rfl rfl (gS (Yk.alloc Tf fun bq ct cu br cv d3=> ?_)))))));have hE:=hE.trans a6;have ad:=ad.trans a6;have cw:=hE.size;have ab:=eb a6 ab;have d4:=Ar (bl ab) cu;have ap:=br;clear br;have d5:bq<ct.heap.size:=by omega
      refine gS (XN (vr (PQ bq 0) rfl) (vr (AB zero32) rfl) ap (by exact Bv (by decide) Abc) (by exact Ac (by decide)) (Af _) fun d6 bs cx d7=> ?_);clear ap;have ap:=bs;clear bs;have d8:=bl ap;refine gS (XK (a:=(6:Nat)) (b:=(0:Nat)) rfl rfl (AA _ _ _ _) (kF (by decide) (gP (XZ FP rfl rfl ?_))));refine Ap (AS _ (false) 6) ?_ ?_;rotate_left
      ·rintro ch d9 ⟨rfl,hb,hx⟩;refine As ?_;have o:=DE (show C9 b fin first (i+1)=none by rw[hst,hO1];rfl) (n-(i+1));rw[show i+1+(n-(i+1))=n by omega]at o;have hE:=hE.trans cv;have hE:=Ab hE cx (AaV cw (by omega));exact .inr ⟨_,rfl,by unfold Ct;rw[o];rfl,rfl,hE.trans hx⟩
      rintro v_ ea ⟨rfl,cy,ec⟩;cases cy
     rw[if_neg hg]at hO1;have ac:(((b.take fin).drop (p+1)).take 32).length=32:=by rw[Abg,Abf,hlen];omega
     refine gS (XK (a:=(p:Nat)) (b:=(fin:Nat)) g z (AL _ _ _ _) (kT (hlt) (gS (X7 (l:=b) (i:=p) F5 PG (XP (hr.keep hE) u) g (by omega) fun ed bt=>(gS (X0 u5 rfl (X6 bt rfl) (gS (XK (a:=((b.getD (p) 0).toNat:Nat)) (b:=(1:Nat)) rfl rfl (Dw _ _ _ _) (kT (hle) (gS (XR rfl rfl (gP (XZ FP rfl rfl ?_)))))))))))));refine Ap (AS _ (true) 6) ?_ ?_;rotate_left
     ·rintro ch ee ⟨rfl,hb,hx⟩;refine As ?_;cases hb
     rintro v_ bu ⟨rfl,ef,a7⟩;have hEn:EntsIn bu va es:=(hEn.keep a7);clear bt;have hE:=hE.trans a7;refine gS (X7 (l:=b) (i:=p) F5 PG (XP (hr.keep hE) u) g (by omega) fun eg bv=>(gS (X0 u5 rfl (X6 bv rfl) (gS (XK (a:=((b.getD (p) 0).toNat:Nat)) (b:=(1:Nat)) rfl rfl (AA _ _ _ _) (kT (h1n) (gS (Yx g (vr (.bool (true)) rfl) (fun w=>Hu (p:Int) true w) (gS (Yk.alloc Hv fun aq cz eh bw bx ei=> ?_))))))))));have f:=Ext.refl bu;have bz:=hE.size;have hr_va:=hr_va.keep a7;have ar:OB va aq:=A7 hr_va.2 (by omega);have c:=bw;clear bw;have ej:aq<cz.heap.size:=by omega
     refine gS (XN (vr (PQ aq 0) rfl) (vr (.agg (entC ((⟨p,true,Aa4 32 0,[]⟩, .slice none 0 0))).toArray) rfl) c (Bo (x:=((⟨p,true,Aa4 32 0,[]⟩, .slice none 0 0):Ag)) (y:=dEnt) (by simp) (by simp[dEnt])) (Bc (x:=((⟨p,true,Aa4 32 0,[]⟩, .slice none 0 0):Ag)) Ey (by simp)) (Bw (x:=((⟨p,true,Aa4 32 0,[]⟩, .slice none 0 0):Ag)) rfl) fun el b0 b1 em=> ?_);clear c;have c:=b0;clear b0;have en:=bl c;clear bv;have f:=f.trans bx;have f:=Ab f b1 (AaV (AaX _) (by omega));have hE:=hE.trans f;refine gS (XL (xv:=NI p) (yv:=NI 1) g rfl rfl (Ai _ _ _ (by omega)) (gS (Yk.fieldAt F9 rfl (gS (XJ JI rfl rfl (cellAt c (show(entC ((⟨p,true,Aa4 32 0,[]⟩, .slice none 0 0)))[1]? =some (.bool (true):AaR)from rfl)) (cT rfl (gS (Yv (xs:=b) (n:=fin) F5 PG u (hr.keep hE) z (by omega) fun c0 c1 ha108=>(gS (XM Kr rfl rfl ?_))))))))));refine((show Calls _ _ _ _ (fun e w2=>e = .returned (.tuple #[AB (((b.take fin).drop (p+1)).take 32),NI (p+1+32),NI 0])∧Ext _ w2)from(Jz _ c0 (b.take fin) c1 (p+1) (by omega)).mono fun e w2 ⟨h1,h2⟩=>by subst h1;refine⟨?_,h2⟩;unfold DW;rw[hlen];rw[if_neg (by omega)];rfl)).mono ?_;rintro e eo ⟨rfl,au⟩;refine⟨_,rfl,?_⟩;refine gS (Yk.extract (vs:= [AB (((b.take fin).drop (p+1)).take 32),NI (p+1+32),NI 0]) rfl rfl (gS (Yk.extract (vs:= [AB (((b.take fin).drop (p+1)).take 32),NI (p+1+32),NI 0]) rfl rfl (gS (Yk.extract (vs:= [AB (((b.take fin).drop (p+1)).take 32),NI (p+1+32),NI 0]) rfl rfl (gS (Yk.alloc Tf fun a8 c2 c3 b2 av ep=> ?_)))))));have hE:=hE.trans au;have f:=f.trans au;have c4:=hE.size;have c5:=f.size;have c:=eb au c;have eq:=Ar (bl c) c3;have hr_va:=hr_va.keep bx;have hr_va:=OG.kept hr_va b1 ar;have hr_va:=hr_va.keep au;have b3:OB va a8:=A7 hr_va.2 (by omega);have j:=b2;clear b2;have er:a8<c2.heap.size:=by omega
     refine gS (XN (vr (PQ a8 0) rfl) (vr (AB (((b.take fin).drop (p+1)).take 32)) rfl) j (by exact Bv ac Abc) (by exact Ac ac) (Af _) fun et b4 aw eu=> ?_);clear j;have j:=b4;clear b4;have ew:=bl j;refine gS (XK (a:=(0:Nat)) (b:=(0:Nat)) rfl rfl (AA _ _ _ _) (kT (rfl) (gP (XZ FP rfl rfl ?_))));refine Ap (AS _ (true) 6) ?_ ?_;rotate_left
     ·rintro ch ex ⟨rfl,hb,hx⟩;refine As ?_;cases hb
     rintro v_ ey ⟨rfl,ez,ai⟩;have c:=eb av c;have c:=kb aw c (by omega);have c:=eb ai c;have j:=eb ai j;refine gS (XO rfl j UY rfl (by exact Ac ac) (gS (Yk.fieldAt Nk rfl (gS (Z0 (B:=Aa4 32 0) (B' :=((b.take fin).drop (p+1)).take 32) rfl rfl c (by simp) ac Rb fun e0 b5 ax e1=> ?_)))));clear c;have c:=b5;clear b5;have e2:=bl c;have hE:=hE.trans av;have hE:=Ab hE aw (AaV c4 (by omega));have hE:=hE.trans ai;have hE:=Ab hE ax (AaV bz (by omega));refine gP (Zq Ks u rfl z ?_);refine Ap (Nj _ v b (hr.keep hE) (p+33) fin (by omega) hf) ?_ ?_;rotate_left
     ·rintro ch e3 ⟨hT,rfl,hx⟩;refine As ?_;have hO1:entOne b fin p=none:=by rw[hO1,show BV b (p+33) fin=none from hT];rfl
      have o:=DE (show C9 b fin first (i+1)=none by rw[hst,hO1];rfl) (n-(i+1));rw[show i+1+(n-(i+1))=n by omega]at o;exact .inr ⟨_,rfl,by unfold Ct;rw[o];rfl,rfl,hE.trans hx⟩
     rintro v_ c6 ⟨ts,tn,hT,rfl,aj⟩;have hO:entOne b fin p=some (⟨p,true,((b.take fin).drop (p+1)).take 32,ts⟩,tn):=by rw[hO1,show BV b (p+33) fin=some (ts,tn)from hT];rfl
     refine gS (Yk.extract (vs:= [St (ts),NI tn]) rfl rfl (gS (Yk.extract (vs:= [St (ts),NI tn]) rfl rfl (gS (Zh O7 F5 u5 rfl (by have:=Gw hT hf;omega) fun q c7 ae ak ay=> ?_)))));have j:=kb ax j (by omega);have j:=eb aj j;have c:=eb aj c;have c8:OB q aq:=fun e=>by have h1:=(ay _ e).1;have h2:=(bl c);omega
     have hr_va:=hr_va.keep av;have hr_va:=OG.kept hr_va aw b3;have hr_va:=hr_va.keep ai;have hr_va:=OG.kept hr_va ax ar;have hr_va:=hr_va.keep aj;have hva:∀k,Aa1 va=some k→k<c6.heap.size:=fun k hk=>((hr_va).2.lt k hk).2;have hkv:∀k,Aa1 q=some k→k<c7.heap.size∧OB va k:=fun k hk=>⟨(ay k hk).2,fun e=>by have h1:=hva k e;have h2:=(ay k hk).1;omega⟩;have hE:=hE.trans aj;have hnv:NewV w.heap.size q:=fun k hk=>AaV (hE).size (ay k hk).1;have c:=eb ak c;refine gS (Yk.fieldAt Iu rfl (gS (Zr (s:= []) (s' :=ts) rfl rfl c ac Kh ae fun b6 b7 al e4=> ?_)));clear c;have c:=b7;clear b7;have e5:=bl c;have hkv2:∀k,Aa1 q=some k→k<b6.heap.size∧OB va k:=fun k hk=>⟨by have:=(hkv k hk).1;omega,(hkv k hk).2⟩;have f:=f.trans av;have f:=Ab f aw (AaV c5 (by omega));have f:=f.trans ai;have f:=Ab f ax (AaV (AaX _) (by omega));have f:=f.trans (aj.trans ak);have f:=Ab f al (AaV (AaX _) (by omega));have ae:=RB.kept ae al (.inr c8);have hEn:EntsIn b6 va (es++ [((⟨p,true,((b.take fin).drop (p+1)).take 32,ts⟩,q):Ag)]):=Y8 (hEn.keep f) ae ac hkv2;have hone_:=Bw (x:=((⟨p,true,((b.take fin).drop (p+1)).take 32,ts⟩,q):Ag)) (RB.one ae).2;refine gS (XO rfl c (Ku).choose_spec rfl (Bc (x:=((⟨p,true,((b.take fin).drop (p+1)).take 32,ts⟩,q):Ag)) Ey ac) (gS (Yo (a:=((⟨p,true,((b.take fin).drop (p+1)).take 32,ts⟩,q))) (enc:=entC) (vr (.agg (entC ((⟨p,true,((b.take fin).drop (p+1)).take 32,ts⟩,q))).toArray) rfl) ((entC_len (x:=((⟨p,true,((b.take fin).drop (p+1)).take 32,ts⟩,q):Ag)) ac)) Kv fun c9 b8 b9 am=> ?_)));have hEn:EntsIn b8 va (es++ [((⟨p,true,((b.take fin).drop (p+1)).take 32,ts⟩,q):Ag)]):=(hEn.keep am);have hE:=hE.trans ak;have hE:=Ab hE al (AaV bz (by omega));have hE:=hE.trans am;have hr_va:=hr_va.keep ak;have hr_va:=OG.kept hr_va al ar;have hr_va:=hr_va.keep am;refine gS (X2 _ _ w.heap.size _ 72 FQ pk12_ig208.choose_spec.1 pk12_ig208.choose_spec.2 FQ (es) ([((⟨p,true,((b.take fin).drop (p+1)).take 32,ts⟩,q))]) (OG.of hr_va T9) (XU b9 (vr c9 rfl)) (fun y hy=>by rw[Aa6.1 hy];exact hone_) (by simp only[Abp,Abw];omega) (by simp only[Abp,Abw];omega) hE.size fun a9 ca da af=> ?_);have hEn_:=hEn;have af:Grew b8 ca va a9:= .eqv T9 af;have c:=eb am c;have j:=eb ak j;have j:=kb al j (by omega);have j:=eb am j;have hE:=Av hE af hr_va.2 (AaX _);have j:=Aq j af b3;clear ae;have c:=Aq c af ar;clear b9;clear hr_va;have hEn:EntsIn ca a9 (es++ [((⟨p,true,((b.take fin).drop (p+1)).take 32,ts⟩,q):Ag)]):=EntsIn.grew hEn_ af;clear hEn_;refine gS (XL (xv:=NI i) (yv:=NI 1) ao rfl rfl (Ai _ _ _ (by omega)) (gK (Aby ⟨i+1,es++ [(⟨p,true,((b.take fin).drop (p+1)).take 32,ts⟩,q)],tn,a9,u,T1,z,T8,a5,rfl,rfl,rfl,hE,hEn,Bz da (rfl),by rw[hst,hO,Acj];rfl,by omega,(Kq hO hf).1,by rw[AaY,hil];rfl,Ng hnw hnv,trivial⟩ ?_)));show n-(intOf (NI ((i)+(1)))).toNat<n-(intOf (be 17)).toNat;rw[q17];simp only[intOf,Aba];omega
    rw[if_neg h1]at hO1;have h1n:¬(b.getD p 0).toNat=1:=fun h=>h1 (Aes.1 (by rw[h];rfl));refine gS (XK (a:=(p:Nat)) (b:=(fin:Nat)) g z (AL _ _ _ _) (kT (hlt) (gS (X7 (l:=b) (i:=p) F5 PG (XP (hr.keep hE) u) g (by omega) fun e6 cb=>(gS (X0 u5 rfl (X6 cb rfl) (gS (XK (a:=((b.getD (p) 0).toNat:Nat)) (b:=(1:Nat)) rfl rfl (Dw _ _ _ _) (kT (hle) (gS (XR rfl rfl (gP (XZ FP rfl rfl ?_)))))))))))));refine Ap (AS _ (true) 6) ?_ ?_;rotate_left
    ·rintro ch e7 ⟨rfl,hb,hx⟩;refine As ?_;cases hb
    rintro v_ cc ⟨rfl,e8,ba⟩;have hEn:EntsIn cc va es:=(hEn.keep ba);clear cb;have hE:=hE.trans ba;refine gS (X7 (l:=b) (i:=p) F5 PG (XP (hr.keep hE) u) g (by omega) fun e9 cd=>(gS (X0 u5 rfl (X6 cd rfl) (gS (XK (a:=((b.getD (p) 0).toNat:Nat)) (b:=(1:Nat)) rfl rfl (AA _ _ _ _) (kF (h1n) (gS (Yx g (vr (.bool (false)) rfl) (fun w=>Hu (p:Int) false w) (gS (Yk.alloc Hv fun az db fa ce cf fb=> ?_))))))))));have aa:=Ext.refl cc;have dc:=hE.size;have hr_va:=hr_va.keep ba;have bb:OB va az:=A7 hr_va.2 (by omega);have m:=ce;clear ce;have fc:az<db.heap.size:=by omega
    refine gS (XN (vr (PQ az 0) rfl) (vr (.agg (entC ((⟨p,false,Aa4 32 0,[]⟩, .slice none 0 0))).toArray) rfl) m (Bo (x:=((⟨p,false,Aa4 32 0,[]⟩, .slice none 0 0):Ag)) (y:=dEnt) (by simp) (by simp[dEnt])) (Bc (x:=((⟨p,false,Aa4 32 0,[]⟩, .slice none 0 0):Ag)) Ey (by simp)) (Bw (x:=((⟨p,false,Aa4 32 0,[]⟩, .slice none 0 0):Ag)) rfl) fun fd cg ci fe=> ?_);clear m;have m:=cg;clear cg;have ff:=bl m;clear cd;have aa:=aa.trans cf;have aa:=Ab aa ci (AaV (AaX _) (by omega));have hE:=hE.trans aa;refine gS (XL (xv:=NI p) (yv:=NI 1) g rfl rfl (Ai _ _ _ (by omega)) (gS (Yk.fieldAt F9 rfl (gS (XJ JI rfl rfl (cellAt m (show(entC ((⟨p,false,Aa4 32 0,[]⟩, .slice none 0 0)))[1]? =some (.bool (false):AaR)from rfl)) (cF rfl (gP (Zq Ks u rfl z ?_))))))));refine Ap (Nj _ v b (hr.keep hE) (p+1) fin (by omega) hf) ?_ ?_;rotate_left
    ·rintro ch fg ⟨hT,rfl,hx⟩;refine As ?_;have hO1:entOne b fin p=none:=by rw[hO1,show BV b (p+1) fin=none from hT];rfl
     have o:=DE (show C9 b fin first (i+1)=none by rw[hst,hO1];rfl) (n-(i+1));rw[show i+1+(n-(i+1))=n by omega]at o;exact .inr ⟨_,rfl,by unfold Ct;rw[o];rfl,rfl,hE.trans hx⟩
    rintro v_ dd ⟨ts,tn,hT,rfl,a0⟩;have hO:entOne b fin p=some (⟨p,false,Aa4 32 0,ts⟩,tn):=by rw[hO1,show BV b (p+1) fin=some (ts,tn)from hT];rfl
    refine gS (Yk.extract (vs:= [St (ts),NI tn]) rfl rfl (gS (Yk.extract (vs:= [St (ts),NI tn]) rfl rfl (gS (Zh O7 F5 u5 rfl (by have:=Gw hT hf;omega) fun t de ag a1 a2=> ?_)))));have m:=eb a0 m;have df:OB t az:=fun e=>by have h1:=(a2 _ e).1;have h2:=(bl m);omega
    have hr_va:=hr_va.keep cf;have hr_va:=OG.kept hr_va ci bb;have hr_va:=hr_va.keep a0;have hva:∀k,Aa1 va=some k→k<dd.heap.size:=fun k hk=>((hr_va).2.lt k hk).2;have hkv:∀k,Aa1 t=some k→k<de.heap.size∧OB va k:=fun k hk=>⟨(a2 k hk).2,fun e=>by have h1:=hva k e;have h2:=(a2 k hk).1;omega⟩;have hE:=hE.trans a0;have hnv:NewV w.heap.size t:=fun k hk=>AaV (hE).size (a2 k hk).1;have m:=eb a1 m;refine gS (Yk.fieldAt Iu rfl (gS (Zr (s:= []) (s' :=ts) rfl rfl m (by simp) Kh ag fun cj ck a3 fh=> ?_)));clear m;have m:=ck;clear ck;have fi:=bl m;have hkv2:∀k,Aa1 t=some k→k<cj.heap.size∧OB va k:=fun k hk=>⟨by have:=(hkv k hk).1;omega,(hkv k hk).2⟩;have aa:=aa.trans (a0.trans a1);have aa:=Ab aa a3 (AaV (AaX _) (by omega));have ag:=RB.kept ag a3 (.inr df);have hEn:EntsIn cj va (es++ [((⟨p,false,Aa4 32 0,ts⟩,t):Ag)]):=Y8 (hEn.keep aa) ag (by simp) hkv2;have hone_:=Bw (x:=((⟨p,false,Aa4 32 0,ts⟩,t):Ag)) (RB.one ag).2;refine gS (XO rfl m (Ku).choose_spec rfl (Bc (x:=((⟨p,false,Aa4 32 0,ts⟩,t):Ag)) Ey (by simp)) (gS (Yo (a:=((⟨p,false,Aa4 32 0,ts⟩,t))) (enc:=entC) (vr (.agg (entC ((⟨p,false,Aa4 32 0,ts⟩,t))).toArray) rfl) ((entC_len (x:=((⟨p,false,Aa4 32 0,ts⟩,t):Ag)) (by simp))) Kv fun dh cl cm a4=> ?_)));have hEn:EntsIn cl va (es++ [((⟨p,false,Aa4 32 0,ts⟩,t):Ag)]):=(hEn.keep a4);have hE:=hE.trans a1;have hE:=Ab hE a3 (AaV dc (by omega));have hE:=hE.trans a4;have hr_va:=hr_va.keep a1;have hr_va:=OG.kept hr_va a3 bb;have hr_va:=hr_va.keep a4;refine gS (X2 _ _ w.heap.size _ 72 FQ pk12_ig208.choose_spec.1 pk12_ig208.choose_spec.2 FQ (es) ([((⟨p,false,Aa4 32 0,ts⟩,t))]) (OG.of hr_va T9) (XU cm (vr dh rfl)) (fun y hy=>by rw[Aa6.1 hy];exact hone_) (by simp only[Abp,Abw];omega) (by simp only[Abp,Abw];omega) hE.size fun bc cn di an=> ?_);have hEn_:=hEn;have an:Grew cl cn va bc:= .eqv T9 an;have m:=eb a4 m;have hE:=Av hE an hr_va.2 (AaX _);clear ag;have m:=Aq m an bb;clear cm;clear hr_va;have hEn:EntsIn cn bc (es++ [((⟨p,false,Aa4 32 0,ts⟩,t):Ag)]):=EntsIn.grew hEn_ an;clear hEn_;refine gS (XL (xv:=NI i) (yv:=NI 1) ao rfl rfl (Ai _ _ _ (by omega)) (gK (Aby ⟨i+1,es++ [(⟨p,false,Aa4 32 0,ts⟩,t)],tn,bc,u,T1,z,T8,a5,rfl,rfl,rfl,hE,hEn,Bz di (rfl),by rw[hst,hO,Acj];rfl,by omega,(Kq hO hf).1,by rw[AaY,hil];rfl,Ng hnw hnv,trivial⟩ ?_)));show n-(intOf (NI ((i)+(1)))).toNat<n-(intOf (be 17)).toNat;rw[q17];simp only[intOf,Aba];omega
   have hO1:entOne b fin p=none:=by unfold entOne;rw[if_neg (fun h=>hle h.2)]
   refine gS (XK (a:=(p:Nat)) (b:=(fin:Nat)) g z (AL _ _ _ _) (kT (hlt) (gS (X7 (l:=b) (i:=p) F5 PG (XP (hr.keep hE) u) g (by omega) fun fj dj=>(gS (X0 u5 rfl (X6 dj rfl) (gS (XK (a:=((b.getD (p) 0).toNat:Nat)) (b:=(1:Nat)) rfl rfl (Dw _ _ _ _) (kF (hle) (gS (XR rfl rfl (gP (XZ FP rfl rfl ?_)))))))))))));refine Ap (AS _ (false) 6) ?_ ?_;rotate_left
   ·rintro ch fk ⟨rfl,hb,hx⟩;refine As ?_;have o:=DE (show C9 b fin first (i+1)=none by rw[hst,hO1];rfl) (n-(i+1));rw[show i+1+(n-(i+1))=n by omega]at o;exact .inr ⟨_,rfl,by unfold Ct;rw[o];rfl,rfl,hE.trans hx⟩
   rintro v_ fl ⟨rfl,dk,fm⟩;cases dk
  have hO1:entOne b fin p=none:=by unfold entOne;rw[if_neg (fun h=>hlt h.1)]
  refine gS (XK (a:=(p:Nat)) (b:=(fin:Nat)) g z (AL _ _ _ _) (kF (hlt) (gS (XV rfl rfl (gP (XZ FP rfl rfl ?_))))));refine Ap (AS _ (false) 6) ?_ ?_;rotate_left
  ·rintro ch fn ⟨rfl,hb,hx⟩;refine As ?_;have o:=DE (show C9 b fin first (i+1)=none by rw[hst,hO1];rfl) (n-(i+1));rw[show i+1+(n-(i+1))=n by omega]at o;exact .inr ⟨_,rfl,by unfold Ct;rw[o];rfl,rfl,hE.trans hx⟩
  rintro v_ fo ⟨rfl,dl,fp⟩;cases dl
 have hin:i=n:=by omega
 refine gS (XK (a:=(p:Nat)) (b:=(fin:Nat)) g z (AA _ _ _ _) (gP (XZ FP rfl rfl ?_)));refine Ap (AS _ (decide ((p:Nat)=(fin))) 6) ?_ ?_;rotate_left
 ·rintro ch fq ⟨rfl,hb,hx⟩;refine As ?_;have hno:=of_decide_eq_false hb;exact .inr ⟨_,rfl,by unfold Ct;rw[←hin,hs];exact if_neg hno,rfl,hE.trans hx⟩
 rintro v_ dm ⟨rfl,dn,bd⟩;have hEn:EntsIn dm va es:=(hEn.keep bd);have dp:=of_decide_eq_true dn;refine Bn rfl T9 ?_;have hE:=hE.trans bd;have hr_va:=hr_va.keep bd;exact .inl ⟨_,rfl,es,by unfold Ct;rw[←hin,hs];exact if_pos dp,XW hr_va,hEn.ok,hnw,hE⟩
abbrev BA(x:Ag):AaR:= .agg (entC x).toArray
theorem Ga:KL AaU 3 (Aem (.int .i64)):=Zz (by kernel_rfl)
theorem Gb:∀n:Nat,True→Aem (.int .i64) (NI n):=fun n _=>by first | exact⟨_,rfl⟩ | simp[Aem]
theorem G3{a b:Nat}(h:NI a=NI b):a=b:=by injection h with _ h;exact Int.ofNat.inj h
theorem Da:∀u:AaS,(zeroValue 208).run AaU u = .ok (BA dEnt) u:=fun _=>by kernel_rfl
structure IxS (α : Type) where
  ids:List Bs
  G:Nat→Option α
  M:Bs→Option α
section
variable {α : Type} (at_ : α → Nat) (d : α) (t : Bs) (es : List α)
def DO:Nat→Nat→Option α
  | 0=>fun _=>none
  | i+1=>updM (DO i) (at_ (es.getD i d)) (some (es.getD i d))
def BP(i:Nat):Bs:=(t.drop (36*i)).take 32
def EE(i:Nat):Nat:=DX ((t.drop (36*i)).drop 32)
def DK(i:Nat)(s:IxS α)(c:α):IxS α:=⟨s.ids++ [BP t i],updM s.G (at_ c) none,updM s.M (BP t i) (some c)⟩
def Dl(i:Nat)(s:IxS α):Option (IxS α):=
  match s.G (EE t i)with
  | none=>none
  | some c=>if i=0∨Abl (s.ids.getD (i-1) []) (BP t i)<0 then some (DK at_ t i s c)else none
def DA:Nat→Option (IxS α)
  | 0=>some ⟨[],DO at_ d es es.length,fun _=>none⟩
  | i+1=>(DA i).bind (Dl at_ t i)
variable {at_ d t es}
theorem EL{i:Nat}(h:DA at_ d t es i=none):∀k,DA at_ d t es (i+k)=none
  | 0=>h
  | k+1=>by
    show(DA at_ d t es (i+k)).bind _=none;rw[EL h k];rfl
theorem Fv{i:Nat}{s:IxS α}(h:DA at_ d t es i=some s):DA at_ d t es (i+1)=Dl at_ t i s:=by
  show(DA at_ d t es i).bind _=_;rw[h];rfl
theorem Jl:∀i,i≤es.length→∀k c,DO at_ d es i k=some c→c∈es∧at_ c=k
  | 0,_,_,_,h=>by cases h
  | i+1,hi,k,c,h=>by
    unfold DO updM at h;split at h
    · rename_i hk
      cases h;refine⟨?_,hk.symm⟩;rw[AaW,Aa2 (by omega)];exact Acp _
    · exact Jl i (by omega) k c h
structure WB (t : Bs) (es : List α) (i : Nat) (s : IxS α) : Prop where
  len:s.ids.length=i
  ids:∀x∈s.ids,∃j,j<i∧x=BP t j
  G:∀k c,s.G k=some c→c∈es
  M:∀k c,s.M k=some c→c∈es
  all:∀x∈s.ids,(s.M x).isSome=true
theorem I1:∀i s,DA at_ d t es i=some s→WB t es i s
  | 0,s,h=>by
    cases h;exact⟨rfl,(fun x hx=>by cases hx),(fun k c hk=>(Jl _ (AaX _) k c hk).1),(fun k c hk=>by cases hk),(fun x hx=>by cases hx)⟩
  | i+1,s,h=>by
    cases h1:DA at_ d t es i with
    | none=>rw[EL h1 1]at h;cases h
    | some s0=>
      have ih:=I1 i s0 h1;rw[Fv h1]at h;unfold Dl at h;split at h
      · cases h
      · rename_i c hc
        split at h
        · cases h;have hcm:=ih.G _ c hc;refine⟨?_,fun x hx=> ?_,fun k c' hk=> ?_,fun k c' hk=> ?_,fun x hx=> ?_⟩
          · show(s0.ids++ [BP t i]).length=i+1;rw[AaY,ih.len];rfl
          · rcases Abk.1 hx with hx | hx
            · obtain⟨j,hj,e⟩:=ih.ids x hx;exact⟨j,by omega,e⟩
            · exact⟨i,by omega,Aa6.1 hx⟩
          · unfold DK updM at hk
            dsimp only at hk
            split at hk
            · cases hk
            · exact ih.G k c' hk
          · unfold DK updM at hk
            dsimp only at hk
            split at hk
            · cases hk;exact hcm
            · exact ih.M k c' hk
          · unfold DK updM
            dsimp only
            split
            · rfl
            · rename_i hne
              rcases Abk.1 hx with hx | hx
              · exact ih.all x hx
              · exact absurd (Aa6.1 hx) hne
        · cases h
end
theorem rowId_len{t:Bs}{i n:Nat}(h:t.length=36*n)(hi:i<n):(BP t i).length=32:=by
  unfold BP;rw[Abg,Abf];omega
theorem Ow:∀w' :AaS,(sizeOf 208).run AaU w' = .ok 35 w' :=fun _=>by kernel_rfl
theorem Gc:A2 AaU 208 0 0:=fun b o w=>by simp[go_sem]
theorem DF:Tryz.prog.underlying 262=some (.map 3 208):=by kernel_rfl
theorem FR:Plain AaU 127:=fun _ _=>by kernel_rfl
theorem LJ:∀(cs:Array AaR),cs.size=32→∀w:AaS,(Abz 42 1 #[(0, .agg cs)]).run AaU w = .ok (.slice (some ⟨w.heap.size,0,none⟩) 1 1) (w.alloc (.cells cs 33))
 | ⟨[c0,c1,c2,c3,c4,c5,c6,c7,c8,c9,c10,c11,c12,c13,c14,c15,c16,c17,c18,c19,c20,c21,c22,c23,c24,c25,c26,c27,c28,c29,c30,c31]⟩,_,w=>Th c0 c1 c2 c3 c4 c5 c6 c7 c8 c9 c10 c11 c12 c13 c14 c15 c16 c17 c18 c19 c20 c21 c22 c23 c24 c25 c26 c27 c28 c29 c30 c31 w
theorem Kw:Tryz.prog.underlying 202=some (.map 33 208):=by kernel_rfl
theorem P7(w:AaS)(v:AaR)(t:Bs)(hr:RB w v t)(ve:AaR)(es:List Ag)(hg:RG 35 entC w ve es)(hok:EntsOk w es)(htl:t.length=36*es.length)(hn:es.length≤1048576):
  Calls AaU 131 #[v,ve] w fun r w' =>(∃x,r = .returned x∧∃s vi b,DA (fun x:Ag=>x.1.pos) dEnt t es es.length=some s∧x = .tuple #[vi, .map (some b)]∧RG 32 AaT w' vi s.ids∧MapF rk BA (fun id:List UInt8=>id.length=32) w' b s.M∧NewV w.heap.size vi∧Ext w w')∨∃ch,r = .panicked ch∧DA (fun x:Ag=>x.1.pos) dEnt t es es.length=none∧ch= [CO 6]∧Ext w w' :=by
 refine gG (args:= [v,ve]) Tryz.func131 rfl 83 rfl rfl ?_;have hE:=Ext.refl w;refine gS (YD NI BA (fun _:Nat=>True) fun u w4 ew b5 dc ex=> ?_);have ey:u<w4.heap.size:=by omega
 have hE:=hE.trans dc;refine gS (X1 FQ (XU (hg.keep hE) rfl) (gL (fun(ρ:Ad) (wz:AaS)=>∃m:Nat,ρ 0=(v:AaR)∧ρ 1=(ve:AaR)∧ρ 4=((Aa0 none 0 0):AaR)∧ρ 5=((Value.map none):AaR)∧ρ 6=(.map (some u):AaR)∧ρ 19=(ve:AaR)∧ρ 20=(NI es.length:AaR)∧ρ 21=(NI m:AaR)∧Ext w wz∧MapF NI BA (fun _:Nat=>True) wz u (DO (fun x:Ag=>x.1.pos) dEnt es m)∧(m≤es.length)∧True) (fun ρ _=>es.length-(intOf (ρ 21)).toNat) ⟨0,rfl,rfl,rfl,rfl,rfl,rfl,rfl,rfl,hE,B4 b5 (rfl),Abs _,trivial⟩ ?_));clear b5;clear hE;rintro dd b6 ⟨m,T0,T1,T4,T5,T6,aq,ar,aj,hE,hb6l,hm,-⟩;have q21:=aj;refine gS (XK (a:=(m:Nat)) (b:=(es.length:Nat)) aj ar (AL _ _ _ _) ?_);refine cD rfl (fun b7=> ?_) fun b7=> ?_
 ·have hmi:=AO dEnt (l:=es) (i:=m) b7;have hel:=hok _ hmi;have de:(entC (es.getD (m) dEnt)).length=35:=(RG.elem (hg.keep hE) dEnt (by omega));refine gS (X4 FQ Ow (by decide) dEnt (XU (hg.keep hE) aq) aj (by omega) fun ez b8=>(gS (X9 (Yb b8 rfl) (Ku).choose_spec rfl (by rw[de];exact Ey) (gS (Yk.alloc Hv fun b9 df dh ca cb e0=> ?_)))));have a3:=Ext.refl b6;have e1:=hE.size;have e2:=Ar hb6l.lt dh;have au:=ca;clear ca;have e3:b9<df.heap.size:=by omega
  refine gS (XN (vr (PQ b9 0) rfl) (vr (.agg (entC (es.getD (m) dEnt)).toArray) rfl) au (Bo (x:=((es.getD (m) dEnt):Ag)) (y:=(dEnt:Ag)) hel.2 (by simp[dEnt])) (Bc (x:=((es.getD (m) dEnt):Ag)) Ey hel.2) (Bw (x:=((es.getD (m) dEnt):Ag)) (RB.one hel.1).2) fun e4 cc cd e5=> ?_);have hb6l:=hb6l.keep cb;have hb6l:=MapF.other hb6l cd (Am (by omega));clear au;have au:=cc;clear cc;have e6:=bl au;clear b8;refine gS (Yk.fieldAt Gc rfl (gS (XJ Tc rfl rfl (cellAt au ((show(entC ((es.getD (m) dEnt)))[0]? =some (NI (((es.getD (m) dEnt)).1.pos):AaR)from rfl))) (gS (XO rfl au (Ku).choose_spec rfl (Bc (x:=((es.getD (m) dEnt):Ag)) Ey hel.2) ?_)))));have a3:=a3.trans cb;have a3:=Ab a3 cd (AaV (AaX _) (by omega));have hE:=hE.trans a3;refine gS (YA (ek:=NI) (ev:=BA) (D:=(fun _:Nat=>True)) (c:=((es.getD (m) dEnt))) Ga Gb DF T6 (vr (NI (((es.getD (m) dEnt)).1.pos)) rfl) (vr (.agg (entC ((es.getD (m) dEnt))).toArray) rfl) hb6l trivial fun di ce dj e7=> ?_);clear hb6l;have e8:u<di.heap.size:=ce.lt;have hE:=Ab hE dj (AaV (AaX _) (by omega));refine gS (XL (xv:=NI m) (yv:=NI 1) aj rfl rfl (Ai _ _ _ (by omega)) (gK (Aby ⟨m+1,T0,T1,T4,T5,T6,aq,ar,rfl,hE,B4 ce (rfl),by omega,trivial⟩ ?_)));show es.length-(intOf (NI ((m)+(1)))).toNat<es.length-(intOf (dd 21)).toNat;rw[q21];simp only[intOf,Aba];omega
 have hie:m=es.length:=by omega
 have hids0:OG w.heap.size 33 32 AaT b6 (Aa0 none 0 0) ([]:List Bs):=OG.nil _ _ _ _ _;have dk:Aa1 (Aa0 none 0 0)≠some u:=fun h=>by cases h
 refine gS (YD rk BA (fun id:List UInt8=>id.length=32) fun ae dl dm cf bh e9=> ?_);have cg:=hE.size;have fa:=Ar hb6l.lt dm;have dn:Aa1 (Aa0 none 0 0)≠some ae:=A7 hids0.2 (by omega);have fb:ae<dl.heap.size:=by omega
 have hE:=hE.trans bh;have hb6l:=hb6l.keep bh;have hids0:=hids0.keep bh;refine gS (X1 FQ (XU (hg.keep hE) T1) (gL (fun(ρ:Ad) (wz:AaS)=>∃i:Nat,∃s:IxS Ag,∃vi:AaR,ρ 0=(v:AaR)∧ρ 1=(ve:AaR)∧ρ 4=((Aa0 none 0 0):AaR)∧ρ 5=((Value.map none):AaR)∧ρ 6=(.map (some u):AaR)∧ρ 10=(.map (some ae):AaR)∧ρ 19=(ve:AaR)∧ρ 20=(NI es.length:AaR)∧ρ 21=(NI m:AaR)∧ρ 32=(NI es.length:AaR)∧ρ 33=(NI i:AaR)∧ρ 9=(vi:AaR)∧Ext w wz∧OG w.heap.size 33 32 (AaT) wz vi (s.ids)∧MapF NI BA (fun _:Nat=>True) wz u (s.G)∧MapF rk BA (fun id:List UInt8=>id.length=32) wz ae (s.M)∧(DA (fun x:Ag=>x.1.pos) dEnt t es i=some s)∧(i≤es.length)∧(OB vi u)∧(OB vi ae)∧True) (fun ρ _=>es.length-(intOf (ρ 33)).toNat) ⟨0,⟨[],DO (fun x:Ag=>x.1.pos) dEnt es es.length,fun _=>none⟩,(Aa0 none 0 0),T0,T1,T4,T5,T6,rfl,aq,ar,aj,rfl,rfl,rfl,hE,Bz hids0 (rfl),B4 hb6l (by rw[hie]),B4 cf (rfl),rfl,Abs _,dk,dn,trivial⟩ ?_));clear hb6l;clear hids0;clear cf;clear hE;rintro ci fc ⟨i,s,vi,T0,T1,T4,T5,T6,a4,aq,ar,aj,bi,ac,T9,hE,hr_vi,hb6ll,hb49l,hs,hi,hap_vi_n3,hap_vi_n46,-⟩;have q33:=ac;refine gS (XK (a:=(i:Nat)) (b:=(es.length:Nat)) ac bi (AL _ _ _ _) ?_);refine cD rfl (fun cj=> ?_) fun cj=> ?_
 ·have hil:i<es.length:=cj;have hI:=I1 i s hs;have hIl:=hI.len;have hst:=Fv hs;have h32:=rowId_len htl hil;refine gS (XL (xv:=NI 36) (yv:=NI i) rfl ac rfl (Ci _ _ _ (by omega)) (gS (Yg (xs:=t) (l:=(36)*(i)) F5 PG T0 (hr.keep hE) rfl (by omega) fun dp o ha69=>(gS (XM Kr rfl rfl ?_)))));refine((show Calls _ _ _ _ (fun e w2=>e = .returned (.tuple #[AB (BP t i),NI 32,NI 0])∧Ext _ w2)from(Jz _ dp (t.drop ((36)*(i))) o 0 (Abs _)).mono fun e w2 ⟨h1,h2⟩=>by subst h1;refine⟨?_,h2⟩;unfold DW BP;rw[if_neg (by simp only[Abf];omega),Adk];rfl)).mono ?_;rintro e dq ⟨rfl,ak⟩;refine⟨_,rfl,?_⟩;refine gS (Yk.extract (vs:= [AB (BP t i),NI 32,NI 0]) rfl rfl (gS (Yk.extract (vs:= [AB (BP t i),NI 32,NI 0]) rfl rfl (gS (Yk.extract (vs:= [AB (BP t i),NI 32,NI 0]) rfl rfl (gS (Yk.alloc Tf fun bj dr ck cl p fd=> ?_)))))));have g:=Ext.refl dq;have hE:=hE.trans ak;have bb:=hE.size;have hb6ll:=hb6ll.keep ak;have fe:=Ar hb6ll.lt ck;have hb49l:=hb49l.keep ak;have ff:=Ar hb49l.lt ck;have hr_vi:=hr_vi.keep ak;have a5:OB vi bj:=A7 hr_vi.2 (by omega);have f:=cl;clear cl;have fg:bj<dr.heap.size:=by omega
  refine gS (XN (vr (PQ bj 0) rfl) (vr (AB (BP t i)) rfl) f (by exact Bv h32 Abc) (by exact Ac h32) (Af _) fun fh cm q fi=> ?_);have hb6ll:=hb6ll.keep p;have hb6ll:=MapF.other hb6ll q (Am (by omega));have hb49l:=hb49l.keep p;have hb49l:=MapF.other hb49l q (Am (by omega));clear f;have f:=cm;clear cm;have fj:=bl f;rcases hG:s.G (EE t i)with _ | c
  ·have hO:Dl (fun x:Ag=>x.1.pos) t i s=none:=by unfold Dl;rw[hG]
   have o:=o.keep ak;have g:=g.trans p;have g:=Ab g q (AaV (AaX _) (by omega));refine gS (Yg (xs:=t.drop ((36)*(i))) (l:=32) F5 PG rfl (o.keep g) rfl (by simp only[Abf];omega) fun ds dt ha95=>(gS (XQ FR rfl (((show Calls _ _ _ _ (fun e w2=>e = .returned (NI (EE t i))∧Ext _ w2)from DN _ ds ((t.drop ((36)*(i)):List UInt8).drop (32)) dt (by simp only[Abf];omega))).mono ?_))));rintro e du ⟨rfl,bc⟩;refine⟨_,rfl,?_⟩;have hE:=hE.trans p;have hE:=Ab hE q (AaV bb (by omega));have hE:=hE.trans bc;have hb6ll:=hb6ll.keep bc;refine gS (Yw (ek:=NI) (ev:=BA) (D:=(fun _:Nat=>True)) Ga Gb (fun _ _=>G3) DF (z:=BA dEnt) Da T6 rfl hb6ll trivial hG (gS (Yk.extract (vs:= [.agg (entC (dEnt)).toArray, .bool (false)]) rfl rfl (gS (Yk.extract (vs:= [.agg (entC (dEnt)).toArray, .bool (false)]) rfl rfl (gS (Yk.alloc Hv fun cn dv co cp bk fk=> ?_)))))));have am:=Ext.refl du;have g:=g.trans bc;have fl:=hE.size;have fm:=g.size;have fn:=Ar hb6ll.lt co;have hb49l:=hb49l.keep bc;have fo:=Ar hb49l.lt co;have bd:=cp;clear cp;have fp:cn<dv.heap.size:=by omega
   refine gS (XN (vr (PQ cn 0) rfl) (vr (.agg (entC (dEnt)).toArray) rfl) bd (Bo (x:=((dEnt):Ag)) (y:=(dEnt:Ag)) (by simp[dEnt]) (by simp[dEnt])) (Bc (x:=((dEnt):Ag)) Ey (by simp[dEnt])) (Bw (x:=((dEnt):Ag)) rfl) fun fq cq bm fr=> ?_);have hb6ll:=hb6ll.keep bk;have hb6ll:=MapF.other hb6ll bm (Am (by omega));have hb49l:=hb49l.keep bk;have hb49l:=MapF.other hb49l bm (Am (by omega));clear bd;have bd:=cq;clear cq;have fs:=bl bd;refine CC [0,1,2,3,4,5,6,7,8,9,10,11,12,13,14,15] [11,15] [] fun ft dw=>(ys (XV rfl rfl zz) (UW (XZ FP rfl rfl ?_)));refine Ap (AS _ (false) 6) ?_ ?_;rotate_left
   ·rintro ch fu ⟨rfl,hb,hx⟩;refine As ?_;rw[hO]at hst;have a6:=EL hst (es.length-(i+1));rw[show i+1+(es.length-(i+1))=es.length by omega]at a6;have am:=am.trans bk;have am:=Ab am bm (AaV (AaX _) (by omega));have am:=am.trans dw;have hE:=hE.trans am;exact .inr ⟨_,rfl,a6,rfl,hE.trans hx⟩
   rintro v_ fv ⟨rfl,dx,fw⟩;cases dx
  have hcm:=hI.G _ c hG;have hcl:=hok _ hcm;by_cases h0:i=0
  ·have hO:Dl (fun x:Ag=>x.1.pos) t i s=some (DK (fun x:Ag=>x.1.pos) t i s c):=by unfold Dl;rw[hG];exact if_pos (.inl h0)
   rw[hO]at hst;have o:=o.keep ak;have g:=g.trans p;have g:=Ab g q (AaV (AaX _) (by omega));refine gS (Yg (xs:=t.drop ((36)*(i))) (l:=32) F5 PG rfl (o.keep g) rfl (by simp only[Abf];omega) fun dy dz ha131=>(gS (XQ FR rfl (((show Calls _ _ _ _ (fun e w2=>e = .returned (NI (EE t i))∧Ext _ w2)from DN _ dy ((t.drop ((36)*(i)):List UInt8).drop (32)) dz (by simp only[Abf];omega))).mono ?_))));rintro e d0 ⟨rfl,av⟩;refine⟨_,rfl,?_⟩;have hE:=hE.trans p;have hE:=Ab hE q (AaV bb (by omega));have hE:=hE.trans av;have hb6ll:=hb6ll.keep av;refine gS (Yr (ek:=NI) (ev:=BA) (D:=(fun _:Nat=>True)) Ga Gb (fun _ _=>G3) DF (z:=BA dEnt) Da T6 rfl hb6ll trivial hG (gS (Yk.extract (vs:= [.agg (entC (c)).toArray, .bool (true)]) rfl rfl (gS (Yk.extract (vs:= [.agg (entC (c)).toArray, .bool (true)]) rfl rfl (gS (Yk.alloc Hv fun bn d1 bo cr aw fx=> ?_)))))));have an:=Ext.refl d0;have g:=g.trans av;have fy:=hE.size;have d2:=g.size;have fz:=Ar hb6ll.lt bo;have hb49l:=hb49l.keep av;have f0:=Ar hb49l.lt bo;have hr_vi:=hr_vi.keep p;have hr_vi:=OG.kept hr_vi q a5;have hr_vi:=hr_vi.keep av;have cs:OB vi bn:=A7 hr_vi.2 (by omega);have j:=cr;clear cr;have f1:bn<d1.heap.size:=by omega
   refine gS (XN (vr (PQ bn 0) rfl) (vr (.agg (entC (c)).toArray) rfl) j (Bo (x:=((c):Ag)) (y:=(dEnt:Ag)) hcl.2 (by simp[dEnt])) (Bc (x:=((c):Ag)) Ey hcl.2) (Bw (x:=((c):Ag)) (RB.one hcl.1).2) fun f2 ct ax f3=> ?_);have hb6ll:=hb6ll.keep aw;have hb6ll:=MapF.other hb6ll ax (Am (by omega));have hb49l:=hb49l.keep aw;have hb49l:=MapF.other hb49l ax (Am (by omega));clear j;have j:=ct;clear ct;have f4:=bl j;refine CC [0,1,2,3,4,5,6,7,8,9,10,11,12,13,14,15] [11,15] [] fun f5 d3=>(ys (XK (a:=(i:Nat)) (b:=(0:Nat)) ac rfl (AA _ _ _ _) zz) (kT (h0) (ys (XR rfl rfl zz) (ys (XR rfl rfl zz) (UW (XZ FP rfl rfl ?_))))));refine Ap (AS _ (true) 6) ?_ ?_;rotate_left
   ·rintro ch f6 ⟨rfl,hb,hx⟩;refine As ?_;cases hb
   rintro v_ f7 ⟨rfl,f8,d4⟩;have hZ1:=d3.trans d4;have hb6ll:=hb6ll.keep hZ1;have j:=eb hZ1 j;refine gS (Yk.fieldAt Gc rfl (gS (XJ Tc rfl rfl (cellAt j ((show(entC ((c)))[0]? =some (NI (((c)).1.pos):AaR)from rfl))) ?_)));have an:=an.trans aw;have an:=Ab an ax (AaV (AaX _) (by omega));have an:=an.trans hZ1;have hE:=hE.trans an;have g:=g.trans aw;have g:=Ab g ax (AaV d2 (by omega));have g:=g.trans hZ1;refine gS (Zn (ek:=NI) (ev:=BA) (D:=(fun _:Nat=>True)) Ga Gb (fun _ _=>G3) DF T6 rfl hb6ll trivial fun d5 af a7 f9=> ?_);have hb49l:=hb49l.keep hZ1;have hb49l:=MapF.other hb49l a7 (Am (by omega));clear hb6ll;have ga:u<d5.heap.size:=af.lt;refine DV [0,1,2,3,6,4,5,7,8] [4,5,7,8] [] [1,6] fun gb bp=> ?_;have f:=eb av f;have gc:=Ar (bl f) bo;have f:=eb aw f;have f:=kb ax f (by omega);have f:=eb hZ1 f;have f:=kb a7 f (by omega);have f:=eb bp f;have j:=kb a7 j (by omega);have j:=eb bp j;refine Xu f j ?_;refine yf (fun _ ⟨f,_,_⟩=>XO rfl f UY rfl (by exact Ac h32) zz) (ys (XO rfl f UY rfl (by exact Ac h32) zz) (yf (fun _ ⟨_,j,_⟩=>XO rfl j (Ku).choose_spec rfl (Bc (x:=((c):Ag)) Ey hcl.2) zz) (yI (Yo (a:=(BP t i)) (enc:=AaT) (vr (AB (BP t i)) rfl) (by rw[Aa8];exact h32) LJ fun d6 d7 cu bq=> ?_))));have hr_vi:=hr_vi.keep aw;have hr_vi:=OG.kept hr_vi ax cs;have hr_vi:=hr_vi.keep hZ1;have hr_vi:=OG.kept hr_vi a7 hap_vi_n3;have hZ2:=bp.trans bq;have hr_vi:=hr_vi.keep hZ2;have hE:=Ab hE a7 (AaV (AaX _) (by omega));have hE:=hE.trans hZ2;have f:=eb bq f;have j:=eb bq j;refine⟨⟨f,j,trivial⟩,?_⟩;refine yI (X2 _ _ w.heap.size _ 32 M4 pk6_ig33.choose_spec.1 pk6_ig33.choose_spec.2 M4 (s.ids) ([(BP t i)]) (OG.of hr_vi T9) (XU cu (vr d6 rfl)) (fun _ _=>Af _) (by simp only[Abp,Abw];omega) (by simp only[Abp,Abw];omega) hE.size fun be d8 br ag=> ?_);have ag:Grew d7 d8 vi be:= .eqv T9 ag;have af:=af.keep hZ2;have d9:OB be u:=Ao ag hap_vi_n3 af.lt;have hb49l:=hb49l.keep hZ2;have cv:OB be ae:=Ao ag hap_vi_n46 hb49l.lt;have hE:=Av hE ag hr_vi.2 (AaX _);have hb49l:=MapF.grew hb49l ag hap_vi_n46;have f:=Aq f ag a5;have j:=Aq j ag cs;have af:=MapF.grew af ag hap_vi_n3;clear cu;clear hr_vi;refine⟨⟨f,j,trivial⟩,?_⟩;refine yI (Yk.assign rfl ?_);refine⟨⟨f,j,trivial⟩,?_⟩;refine yD rfl (YA (ek:=rk) (ev:=BA) (D:=(fun id:List UInt8=>id.length=32)) (c:=((c))) Ce Cf Kw a4 (vr (AB (BP t i)) rfl) (vr (.agg (entC ((c))).toArray) rfl) hb49l h32 fun ea cw bs gd=> ?_);have af:=MapF.other af bs (Am (by omega));clear hb49l;have ge:ae<ea.heap.size:=cw.lt;have hE:=Ab hE bs (AaV cg (by omega));have br:=OG.kept br bs cv;refine gS (XL (xv:=NI i) (yv:=NI 1) ac rfl rfl (Ai _ _ _ (by omega)) (gK (Aby ⟨i+1,DK (fun x:Ag=>x.1.pos) t i s c,be,T0,T1,T4,T5,T6,a4,aq,ar,aj,bi,rfl,rfl,hE,Bz br (rfl),B4 af (rfl),B4 cw (rfl),hst,by omega,d9,cv,trivial⟩ ?_)));show es.length-(intOf (NI ((i)+(1)))).toNat<es.length-(intOf (ci 33)).toNat;rw[q33];simp only[intOf,Aba];omega
  by_cases hlt:Abl (s.ids.getD (i-1) []) (BP t i)<0
  ·have hO:Dl (fun x:Ag=>x.1.pos) t i s=some (DK (fun x:Ag=>x.1.pos) t i s c):=by unfold Dl;rw[hG];exact if_pos (.inr hlt)
   rw[hO]at hst;have o:=o.keep ak;have g:=g.trans p;have g:=Ab g q (AaV (AaX _) (by omega));refine gS (Yg (xs:=t.drop ((36)*(i))) (l:=32) F5 PG rfl (o.keep g) rfl (by simp only[Abf];omega) fun ec ed ha192=>(gS (XQ FR rfl (((show Calls _ _ _ _ (fun e w2=>e = .returned (NI (EE t i))∧Ext _ w2)from DN _ ec ((t.drop ((36)*(i)):List UInt8).drop (32)) ed (by simp only[Abf];omega))).mono ?_))));rintro e ee ⟨rfl,ay⟩;refine⟨_,rfl,?_⟩;have hE:=hE.trans p;have hE:=Ab hE q (AaV bb (by omega));have hE:=hE.trans ay;have hb6ll:=hb6ll.keep ay;refine gS (Yr (ek:=NI) (ev:=BA) (D:=(fun _:Nat=>True)) Ga Gb (fun _ _=>G3) DF (z:=BA dEnt) Da T6 rfl hb6ll trivial hG (gS (Yk.extract (vs:= [.agg (entC (c)).toArray, .bool (true)]) rfl rfl (gS (Yk.extract (vs:= [.agg (entC (c)).toArray, .bool (true)]) rfl rfl (gS (Yk.alloc Hv fun bt ef cx cy a8 gf=> ?_)))))));have ad:=Ext.refl ee;have g:=g.trans ay;have gg:=hE.size;have eg:=g.size;have gh:=Ar hb6ll.lt cx;have hb49l:=hb49l.keep ay;have gi:=Ar hb49l.lt cx;have hr_vi:=hr_vi.keep p;have hr_vi:=OG.kept hr_vi q a5;have hr_vi:=hr_vi.keep ay;have cz:OB vi bt:=A7 hr_vi.2 (by omega);have n:=cy;clear cy;have gj:bt<ef.heap.size:=by omega
   refine gS (XN (vr (PQ bt 0) rfl) (vr (.agg (entC (c)).toArray) rfl) n (Bo (x:=((c):Ag)) (y:=(dEnt:Ag)) hcl.2 (by simp[dEnt])) (Bc (x:=((c):Ag)) Ey hcl.2) (Bw (x:=((c):Ag)) (RB.one hcl.1).2) fun gk c0 a9 gl=> ?_);have hb6ll:=hb6ll.keep a8;have hb6ll:=MapF.other hb6ll a9 (Am (by omega));have hb49l:=hb49l.keep a8;have hb49l:=MapF.other hb49l a9 (Am (by omega));clear n;have n:=c0;clear c0;have gm:=bl n;refine CC [0,1,2,3,4,5,6,7,8,9,10,11,12,13,14,15] [11,15] [] fun gn bu=>(ys (XK (a:=(i:Nat)) (b:=(0:Nat)) ac rfl (AA _ _ _ _) zz) (kF (h0) (ys (XL (xv:=NI i) (yv:=NI 1) ac rfl rfl (BJ _ _ _ (by omega) (by omega)) zz) ?_)));have hr_vi:=hr_vi.keep a8;have hr_vi:=OG.kept hr_vi a9 cz;have hr_vi:=hr_vi.keep bu;have c1:(AaT ((s.ids).getD ((i)-(1)) ([]:List UInt8))).length=32:=(RG.elem (XW hr_vi) ([]:List UInt8) (by omega));have ad:=ad.trans a8;have ad:=Ab ad a9 (AaV (AaX _) (by omega));have ad:=ad.trans bu;have f:=eb (ay.trans ad) f;refine yA (X4 M4 Rs (by decide) ([]:List UInt8) (XU (XW hr_vi) T9) rfl (by omega) fun go az=>(ys (X9 (Yb az rfl) UY rfl (by rw[c1];exact Rb) zz) (ys (XO rfl f UY rfl (by exact Ac h32) zz) (yC (XM Ru rfl rfl ((GL _ ((s.ids).getD ((i)-(1)) ([]:List UInt8)) (BP t i) ((AC (c1))) (h32)).mono ?_))))));rintro e gp ⟨rfl,bv⟩;refine⟨_,rfl,?_⟩;have az:=PR.keep az bv;refine ys (XK rfl rfl (FH _ .i64 (Abl ((s.ids).getD ((i)-(1)) ([]:List UInt8)) (BP t i):Int) ((0:Nat):Int)) zz) (kT (hlt) (ys (XV rfl rfl zz) (ys (XR rfl rfl zz) (UW (XZ FP rfl rfl ?_)))));refine Ap (AS _ (true) 6) ?_ ?_;rotate_left
   ·rintro ch gq ⟨rfl,hb,hx⟩;refine As ?_;cases hb
   rintro v_ gr ⟨rfl,gs,bw⟩;have az:=PR.keep az bw;clear az;have hZ3:=(bu.trans bv).trans bw;have hb6ll:=hb6ll.keep hZ3;have n:=eb hZ3 n;refine gS (Yk.fieldAt Gc rfl (gS (XJ Tc rfl rfl (cellAt n ((show(entC ((c)))[0]? =some (NI (((c)).1.pos):AaR)from rfl))) ?_)));have hZ4:=bv.trans bw;have ad:=ad.trans hZ4;have hE:=hE.trans ad;have g:=g.trans a8;have g:=Ab g a9 (AaV eg (by omega));have g:=g.trans hZ3;refine gS (Zn (ek:=NI) (ev:=BA) (D:=(fun _:Nat=>True)) Ga Gb (fun _ _=>G3) DF T6 rfl hb6ll trivial fun eh ah ba gt=> ?_);have hb49l:=hb49l.keep hZ3;have hb49l:=MapF.other hb49l ba (Am (by omega));clear hb6ll;have gu:u<eh.heap.size:=ah.lt;refine DV [0,1,2,3,6,4,5,7,8] [4,5,7,8] [] [1,6] fun gv bx=> ?_;have f:=eb hZ4 f;have f:=kb ba f (by omega);have f:=eb bx f;have n:=kb ba n (by omega);have n:=eb bx n;refine Xu f n ?_;refine yf (fun _ ⟨f,_,_⟩=>XO rfl f UY rfl (by exact Ac h32) zz) (ys (XO rfl f UY rfl (by exact Ac h32) zz) (yf (fun _ ⟨_,n,_⟩=>XO rfl n (Ku).choose_spec rfl (Bc (x:=((c):Ag)) Ey hcl.2) zz) (yI (Yo (a:=(BP t i)) (enc:=AaT) (vr (AB (BP t i)) rfl) (by rw[Aa8];exact h32) LJ fun ei ej c2 bz=> ?_))));have hr_vi:=hr_vi.keep hZ4;have hr_vi:=OG.kept hr_vi ba hap_vi_n3;have hZ5:=bx.trans bz;have hr_vi:=hr_vi.keep hZ5;have hE:=Ab hE ba (AaV (AaX _) (by omega));have hE:=hE.trans hZ5;have f:=eb bz f;have n:=eb bz n;refine⟨⟨f,n,trivial⟩,?_⟩;refine yI (X2 _ _ w.heap.size _ 32 M4 pk6_ig33.choose_spec.1 pk6_ig33.choose_spec.2 M4 (s.ids) ([(BP t i)]) (OG.of hr_vi T9) (XU c2 (vr ei rfl)) (fun _ _=>Af _) (by simp only[Abp,Abw];omega) (by simp only[Abp,Abw];omega) hE.size fun bf el b0 ai=> ?_);have ai:Grew ej el vi bf:= .eqv T9 ai;have ah:=ah.keep hZ5;have em:OB bf u:=Ao ai hap_vi_n3 ah.lt;have hb49l:=hb49l.keep hZ5;have c3:OB bf ae:=Ao ai hap_vi_n46 hb49l.lt;have hE:=Av hE ai hr_vi.2 (AaX _);have hb49l:=MapF.grew hb49l ai hap_vi_n46;have f:=Aq f ai a5;have n:=Aq n ai cz;have ah:=MapF.grew ah ai hap_vi_n3;clear c2;clear hr_vi;refine⟨⟨f,n,trivial⟩,?_⟩;refine yI (Yk.assign rfl ?_);refine⟨⟨f,n,trivial⟩,?_⟩;refine yD rfl (YA (ek:=rk) (ev:=BA) (D:=(fun id:List UInt8=>id.length=32)) (c:=((c))) Ce Cf Kw a4 (vr (AB (BP t i)) rfl) (vr (.agg (entC ((c))).toArray) rfl) hb49l h32 fun en c4 b1 gw=> ?_);have ah:=MapF.other ah b1 (Am (by omega));clear hb49l;have gx:ae<en.heap.size:=c4.lt;have hE:=Ab hE b1 (AaV cg (by omega));have b0:=OG.kept b0 b1 c3;refine gS (XL (xv:=NI i) (yv:=NI 1) ac rfl rfl (Ai _ _ _ (by omega)) (gK (Aby ⟨i+1,DK (fun x:Ag=>x.1.pos) t i s c,bf,T0,T1,T4,T5,T6,a4,aq,ar,aj,bi,rfl,rfl,hE,Bz b0 (rfl),B4 ah (rfl),B4 c4 (rfl),hst,by omega,em,c3,trivial⟩ ?_)));show es.length-(intOf (NI ((i)+(1)))).toNat<es.length-(intOf (ci 33)).toNat;rw[q33];simp only[intOf,Aba];omega
  have hO:Dl (fun x:Ag=>x.1.pos) t i s=none:=by unfold Dl;rw[hG];exact if_neg (fun h=>h.elim h0 hlt)
  have o:=o.keep ak;have g:=g.trans p;have g:=Ab g q (AaV (AaX _) (by omega));refine gS (Yg (xs:=t.drop ((36)*(i))) (l:=32) F5 PG rfl (o.keep g) rfl (by simp only[Abf];omega) fun eo ep ha258=>(gS (XQ FR rfl (((show Calls _ _ _ _ (fun e w2=>e = .returned (NI (EE t i))∧Ext _ w2)from DN _ eo ((t.drop ((36)*(i)):List UInt8).drop (32)) ep (by simp only[Abf];omega))).mono ?_))));rintro e eq ⟨rfl,a0⟩;refine⟨_,rfl,?_⟩;have hE:=hE.trans p;have hE:=Ab hE q (AaV bb (by omega));have hE:=hE.trans a0;have hb6ll:=hb6ll.keep a0;refine gS (Yr (ek:=NI) (ev:=BA) (D:=(fun _:Nat=>True)) Ga Gb (fun _ _=>G3) DF (z:=BA dEnt) Da T6 rfl hb6ll trivial hG (gS (Yk.extract (vs:= [.agg (entC (c)).toArray, .bool (true)]) rfl rfl (gS (Yk.extract (vs:= [.agg (entC (c)).toArray, .bool (true)]) rfl rfl (gS (Yk.alloc Hv fun c5 er c6 c7 b2 gy=> ?_)))))));have ab:=Ext.refl eq;have g:=g.trans a0;have gz:=hE.size;have g0:=g.size;have g1:=Ar hb6ll.lt c6;have hb49l:=hb49l.keep a0;have g2:=Ar hb49l.lt c6;have bg:=c7;clear c7;have g3:c5<er.heap.size:=by omega
  refine gS (XN (vr (PQ c5 0) rfl) (vr (.agg (entC (c)).toArray) rfl) bg (Bo (x:=((c):Ag)) (y:=(dEnt:Ag)) hcl.2 (by simp[dEnt])) (Bc (x:=((c):Ag)) Ey hcl.2) (Bw (x:=((c):Ag)) (RB.one hcl.1).2) fun g4 c8 b3 g5=> ?_);have hb6ll:=hb6ll.keep b2;have hb6ll:=MapF.other hb6ll b3 (Am (by omega));have hb49l:=hb49l.keep b2;have hb49l:=MapF.other hb49l b3 (Am (by omega));clear bg;have bg:=c8;clear c8;have g6:=bl bg;refine CC [0,1,2,3,4,5,6,7,8,9,10,11,12,13,14,15] [11,15] [] fun g7 et=>(ys (XK (a:=(i:Nat)) (b:=(0:Nat)) ac rfl (AA _ _ _ _) zz) (kF (h0) (ys (XL (xv:=NI i) (yv:=NI 1) ac rfl rfl (BJ _ _ _ (by omega) (by omega)) zz) ?_)));have hr_vi:=hr_vi.keep p;have hr_vi:=OG.kept hr_vi q a5;have ab:=ab.trans b2;have ab:=Ab ab b3 (AaV (AaX _) (by omega));have ab:=ab.trans et;have hr_vi:=hr_vi.keep (a0.trans ab);have c9:(AaT ((s.ids).getD ((i)-(1)) ([]:List UInt8))).length=32:=(RG.elem (XW hr_vi) ([]:List UInt8) (by omega));have f:=eb (a0.trans ab) f;refine yA (X4 M4 Rs (by decide) ([]:List UInt8) (XU (XW hr_vi) T9) rfl (by omega) fun g8 b4=>(ys (X9 (Yb b4 rfl) UY rfl (by rw[c9];exact Rb) zz) (ys (XO rfl f UY rfl (by exact Ac h32) zz) (yC (XM Ru rfl rfl ((GL _ ((s.ids).getD ((i)-(1)) ([]:List UInt8)) (BP t i) ((AC (c9))) (h32)).mono ?_))))));rintro e g9 ⟨rfl,da⟩;refine⟨_,rfl,?_⟩;have b4:=PR.keep b4 da;refine ys (XK rfl rfl (FH _ .i64 (Abl ((s.ids).getD ((i)-(1)) ([]:List UInt8)) (BP t i):Int) ((0:Nat):Int)) zz) (kF (hlt) (ys (XV rfl rfl zz) (ys (XR rfl rfl zz) (UW (XZ FP rfl rfl ?_)))));refine Ap (AS _ (false) 6) ?_ ?_;rotate_left
  ·rintro ch ha ⟨rfl,hb,hx⟩;refine As ?_;rw[hO]at hst;have a6:=EL hst (es.length-(i+1));rw[show i+1+(es.length-(i+1))=es.length by omega]at a6;have ab:=ab.trans da;have hE:=hE.trans ab;exact .inr ⟨_,rfl,a6,rfl,hE.trans hx⟩
  rintro v_ hc ⟨rfl,eu,hd⟩;cases eu
 have hie1:i=es.length:=by omega
 refine By rfl T9 a4 ?_;exact .inl ⟨_,rfl,s,_,_,by rw[←hie1];exact hs,rfl,XW hr_vi,hb49l,(fun k hk=>(hr_vi.2.lt k hk).1),hE⟩
theorem Y2{P:Abo}{K:AaR→AaS→Prop}{ρ:Ad}{w:AaS}{d:Option Tmp}{ty:AaZ}{pos:String}{af:Array AbP}{gd:Option (Nat × Bool)}{α β:Type}{ek:α→AaR}{ev:β→AaR}{D:α→Prop}{b:Nat}{G:α→Option β}{t Kt E:AaZ}{OK:AaR→Prop} 
    (L:KL P Kt OK) (hD:∀a,D a→OK (ek a)) (hi:∀a c,ek a=ek c→a=c) (ht:P.underlying t=some (.map Kt E)) {df:β} (hz:∀u:AaS,(zeroValue E).run P u = .ok (ev df) u) {x y:Aa5} {a:α}
    (hm:Aa ρ x = .map (some b)) (hy:Aa ρ y=ek a) (h:MapF ek ev D w b G) (ha:D a) (hk:K (ev ((G a).getD df)) w):Yk P K ((execOp (Aa ρ) ⟨d, .lookup t x y false,ty,pos,af,gd⟩).run P w):=
  Ze L hD hi ht hz hm hy h ha (by cases e:G a <;> rw[e]at hk <;> exact hk)
def Nl(w:AaS)(x:Ag):Prop:=RB w x.2 x.1.bytes∧x.1.base.length=32∧x.1.bytes.length≤1048576
def MOk(w:AaS)(M:Bs→Option Ag):Prop:=∀k c,M k=some c→Nl w c
theorem MOk.keep{w w' :AaS}{M:Bs→Option Ag}(h:MOk w M)(k:Ext w w'):MOk w' M:=fun a c hc=>⟨(h a c hc).1.keep k,(h a c hc).2⟩
theorem MOk.get{w:AaS}{M:Bs→Option Ag}(h:MOk w M)(k:Bs):Nl w ((M k).getD dEnt):=by
  cases e:M k with
  | none=>exact⟨RB.nil w,by simp[dEnt],by simp[dEnt]⟩
  | some c=>exact h k c e
def AD(M:Bs→Option Ag)(k:Bs):Ent:=((M k).getD dEnt).1
section
variable (E : Bs → Ent)
def A6:Nat→Ent→Option Nat
  | 0,e=>if e.based then none else some 0
  | n+1,e=>if e.based then(A6 n (E e.base)).map (· + 1)else some 0
def BL:Nat→Bs→Option (Bs × Nat)
  | 0,_=>none
  | n+1,id=>
    if(E id).based then(BL n (E id).base).bind fun x=>if(A5 x.1 (E id).bytes).2=0 then(if(A5 x.1 (E id).bytes).1.length≤262144 then some ((A5 x.1 (E id).bytes).1,x.2+1)else none)else none
    else if(E id).bytes.length≤262144 then some ((E id).bytes,0)else none
variable {E}
theorem D6{n:Nat}{e:Ent}(h:e.based=false):A6 E n e=some 0:=by
  cases n <;> (unfold A6;rw[h];rfl)
theorem EW{e:Ent}(h:e.based=true):A6 E 0 e=none:=by unfold A6;rw[h];rfl
theorem DB{n:Nat}{e:Ent}(h:e.based=true):A6 E (n+1) e=(A6 E n (E e.base)).map (· + 1):=by
  show(if e.based=true then _ else _)=_;rw[if_pos h]
theorem P8{n c:Nat}{e:Ent}(h:e.based=true):(A6 E (n+1) e).map (· + c)=(A6 E n (E e.base)).map (· + (c+1)):=by
  rw[DB h];cases A6 E n (E e.base)with
  | none=>rfl
  | some d=>show some (d+1+c)=some (d+(c+1));rw[Ac5,AeD 1 c]
theorem Gd:∀(n m:Nat) (e:Ent) (d:Nat),A6 E n e=some d→d≤m→A6 E m e=some d
  | n,m,e,d,h,hm=>by
    cases hb:e.based with
    | false=>rw[D6 hb]at h ⊢;exact h
    | true=>
      cases n with
      | zero=>rw[EW hb]at h;cases h
      | succ n=>
        rw[DB hb]at h;cases h1:A6 E n (E e.base)with
        | none=>rw[h1]at h;cases h
        | some d1=>
          rw[h1]at h;cases h;cases m with
          | zero=>simp at hm
          | succ m=>rw[DB hb,Gd n m _ d1 h1 (by simpa using hm)];rfl
end
theorem Iv:A2 AaU 212 0 0:=fun b o w=>by simp[go_sem]
theorem P9(w:AaS)(gm be bm:Nat)(M:Bs→Option Ag)(hmk:w.heap[gm]? =some (.cells ([.map (some be), .map (some bm)]).toArray 212 (0,0)))(hme:MapF rk BA (fun id:List UInt8=>id.length=32) w be M)(hMO:MOk w M)(id:Bs)(hid:id.length=32):
  Calls AaU 133 #[PQ gm 0,AB id] w fun r w' =>(∃x,r = .returned x∧∃d,A6 (AD M) 50 (AD M id)=some d∧x=NI d∧Ext w w')∨∃ch,r = .panicked ch∧A6 (AD M) 50 (AD M id)=none∧ch= [CO 17]∧Ext w w' :=by
 refine gG (args:= [PQ gm 0,AB id]) Tryz.func133 rfl 29 rfl rfl ?_;have hE:=Ext.refl w;refine gS (Yk.box (vr (AB id) rfl) fun s w3 ab ac an a3=> ?_);have a4:=Ar hme.lt ab;have e:=ac;clear ac;have a5:s<w3.heap.size:=by omega
 refine DV [0,1,2,3,4,5,6,7] [6,7] [1,2] [3,4,5] fun ao ad=> ?_;have hZ1:=an.trans ad;have hE:=hE.trans hZ1;have ap:=hE.size;have k:=Ext.refl ao;have a6:=Ar (bl hmk) ab;have hmk:=eb hZ1 hmk;have hme:=hme.keep hZ1;have e:=eb ad e;refine DQ k ?_;refine yp (Yk.nilCheck rfl zz) (yp (Yk.fieldAt Iv rfl zz) (yf (fun _ ⟨hZ,_⟩=>XJ Kw rfl rfl (cellAt (eb hZ hmk) rfl) zz) (yf (fun _ ⟨hZ,_⟩=>XO rfl (eb hZ e) UY rfl (by exact Ac hid) zz) (yf (fun _ ⟨hZ,_⟩=>Y2 (ek:=rk) (ev:=BA) (D:=(fun id:List UInt8=>id.length=32)) (df:=dEnt) Ce Cf (fun _ _=>B9) Kw Da rfl rfl (hme.keep hZ) hid zz) (yE (Yk.alloc Hv fun t aq u ae i a7=> ?_))))));have a8:=Ar hme.lt u;have h:=ae;clear ae;have a9:t<aq.heap.size:=by omega
 have k:=k.trans i;refine⟨k,?_⟩;refine yD rfl (XN (vr (PQ t 0) rfl) (vr (.agg (entC ((M (id)).getD dEnt)).toArray) rfl) h (Bo (x:=(((M (id)).getD dEnt):Ag)) (y:=(dEnt:Ag)) (hMO.get (id)).2.1 (by simp[dEnt])) (Bc (x:=(((M (id)).getD dEnt):Ag)) Ey (hMO.get (id)).2.1) (Bw (x:=(((M (id)).getD dEnt):Ag)) (RB.one (hMO.get (id)).1).2) fun ba af l bb=> ?_);have hme:=hme.keep i;have hme:=MapF.other hme l (Am (by omega));clear h;have h:=af;clear af;have bc:=bl h;have bd:=Ar (bl hmk) u;have hmk:=eb i hmk;have hmk:=kb l hmk (by omega);have bf:=Ar (bl e) u;have e:=eb i e;have e:=kb l e (by omega);have hE:=hE.trans i;have hE:=Ab hE l (AaV ap (by omega));refine gL (fun(ρ:Ad) (wz:AaS)=>∃c:Nat,∃x:Ag,∃q:Nat,ρ 0=(PQ gm 0:AaR)∧ρ 1=(AB id:AaR)∧ρ 3=(PQ s 0:AaR)∧ρ 4=(NI 0:AaR)∧ρ 5=(NI c:AaR)∧ρ 6=(PQ q 0:AaR)∧wz.heap[gm]? =some (.cells ([.map (some be), .map (some bm)]).toArray 212 (0,0))∧MapF rk BA (fun id:List UInt8=>id.length=32) wz be M∧Ext w wz∧wz.heap[s]? =some (.cells (AaT id).toArray 33 (0,0))∧wz.heap[q]? =some (.cells (entC (x)).toArray 208 (0,0))∧(c≤50)∧(A6 (AD M) 50 (AD M id)=(A6 (AD M) (50-c) x.1).map (· + c))∧(Nl w x)∧(w.heap.size≤q)∧True) (fun ρ _=>51-(intOf (ρ 5)).toNat) ⟨0,(M id).getD dEnt,t,rfl,rfl,rfl,rfl,rfl,rfl,hmk,hme,hE,e,h,Abs _,by simp[AD],hMO.get id,by omega,trivial⟩ ?_;clear h;clear hmk hme hE e;rintro ar bg ⟨c,x,q,T0,T1,T3,T4,v,T6,hmk,hme,hE,e,hbq,hc,hd,hxo,hqw,-⟩;have q5:=v;refine gS (Yk.fieldAt F9 T6 (gS (XJ JI rfl rfl (cellAt hbq ((show(entC (x))[1]? =some (.bool ((x).1.based):AaR)from rfl))) ?_)));refine cB ((x).1.based) rfl (fun m=> ?_) fun m=> ?_
 ·have ax:x.1.based=true:=m;refine gS (XL (xv:=NI c) (yv:=NI 1) v rfl rfl (Ai _ _ _ (by omega)) (gS (XK (a:=((c)+(1):Nat)) (b:=(50:Nat)) rfl rfl (Dw _ _ _ _) (gP (XZ FP rfl rfl ?_)))));refine Ap (AS _ (decide (((c)+(1))≤(50))) 17) ?_ ?_;rotate_left
  ·rintro ch bh ⟨rfl,hb,hx⟩;refine As ?_;have hno:=of_decide_eq_false hb;refine .inr ⟨_,rfl,?_,rfl,hE.trans hx⟩;rw[hd,show 50-c=0 by omega,EW m];rfl
  rintro v_ ay ⟨rfl,az,j⟩;have bi:=of_decide_eq_true az;have hbq:=eb j hbq;refine gS (XO T6 hbq (Ku).choose_spec rfl (Bc (x:=(x:Ag)) Ey hxo.2.1) (gS (Yk.alloc Hv fun n a0 a1 ai z bj=> ?_)));have g:=Ext.refl ay;have hE:=hE.trans j;have aj:=hE.size;have hme:=hme.keep j;have bk:=Ar hme.lt a1;have f:=ai;clear ai;have bn:n<a0.heap.size:=by omega
  refine gS (XN (vr (PQ n 0) rfl) (vr (.agg (entC (x)).toArray) rfl) f (Bo (x:=((x):Ag)) (y:=(dEnt:Ag)) hxo.2.1 (by simp[dEnt])) (Bc (x:=((x):Ag)) Ey hxo.2.1) (Bw (x:=((x):Ag)) (RB.one hxo.1).2) fun bo ak aa bp=> ?_);have hme:=hme.keep z;have hme:=MapF.other hme aa (Am (by omega));clear f;have f:=ak;clear ak;have bq:=bl f;refine CC [0,1,2,3,4,5,6,7] [7] [] fun br o=> ?_;have g:=g.trans z;have g:=Ab g aa (AaV (AaX _) (by omega));have g:=g.trans o;have hmk:=eb (j.trans g) hmk;have hme:=hme.keep o;have f:=eb o f;refine ys (Yk.nilCheck T0 zz) (ys (Yk.fieldAt Iv rfl zz) (ys (XJ Kw rfl rfl (cellAt hmk rfl) zz) (ys (Yk.fieldAt Nk rfl zz) (ys (Yf rfl (El (x:=((x):Ag)) f) UY rfl (by rw[Aa8,hxo.2.1];exact Rb) zz) (ys (Y2 (ek:=rk) (ev:=BA) (D:=(fun id:List UInt8=>id.length=32)) (df:=dEnt) Ce Cf (fun _ _=>B9) Kw Da rfl rfl hme hxo.2.1 zz) (yC (XN (vr (PQ n 0) rfl) (vr (.agg (entC ((M (((x)).1.base)).getD dEnt)).toArray) rfl) f (Bo (x:=(((M (((x)).1.base)).getD dEnt):Ag)) (y:=((x):Ag)) (hMO.get (((x)).1.base)).2.1 hxo.2.1) (Bc (x:=(((M (((x)).1.base)).getD dEnt):Ag)) Ey (hMO.get (((x)).1.base)).2.1) (Bw (x:=(((M (((x)).1.base)).getD dEnt):Ag)) (RB.one (hMO.get (((x)).1.base)).1).2) fun bs al p bt=> ?_)))))));have hme:=MapF.other hme p (Am (by omega));clear f;have f:=al;clear al;have bu:=bl f;have g:=Ab g p (AaV (AaX _) (by omega));have e:=eb (j.trans g) e;have hE:=hE.trans z;have hE:=Ab hE aa (AaV aj (by omega));have hE:=hE.trans o;have hE:=Ab hE p (AaV aj (by omega));have hmk:=kb p hmk (by omega);refine gK (Aby ⟨c+1,(M x.1.base).getD dEnt,n,T0,T1,T3,T4,rfl,rfl,hmk,hme,hE,e,f,by omega,hd.trans (by rw[show 50-c=(50-(c+1))+1 by omega];exact P8 ax),hMO.get _,by omega,trivial⟩ ?_);show 51-(intOf (NI ((c)+(1)))).toNat<51-(intOf (ar 5)).toNat;rw[q5];simp only[intOf,Aba];omega
 have a2:x.1.based=false:=by simpa using m
 refine Bn rfl v ?_;exact .inl ⟨_,rfl,c,by rw[hd,D6 a2];exact congrArg some (Ab9 c),rfl,hE⟩
abbrev Cp:=(Bs × Nat)× AaR
abbrev Ch(x:Cp):AaR:= .agg ([x.2,NI x.1.2]).toArray
def K6:Cp:=(([],0), .slice none 0 0)
theorem G4:∀u:AaS,(zeroValue 215).run AaU u = .ok (Ch K6) u:=fun _=>by kernel_rfl
theorem Cn{v:AaR}{n:Nat}(h:v.oneCell' =true):∀u∈([v,NI n]).toArray.toList,u.oneCell' =true:=by
  intro u hu;simp only[AbF,AcN,or_false]at hu;rcases hu with rfl | rfl
  · exact h
  · rfl
def IsMapB(w:AaS)(b:Nat):Prop:=∃es c,w.heap[b]? =some (.map es c)
theorem YJ{α β:Type}{ek:α→AaR}{ev:β→AaR}{D:α→Prop}{w:AaS}{b:Nat}{G:α→Option β}(h:MapF ek ev D w b G):IsMapB w b:=by
  obtain⟨es,c,h,-⟩:=h;exact⟨_,c,h⟩
def D7(w:AaS)(b:Nat):Prop:=∀j x,w.cell? ⟨b,j,none⟩≠some (B8 x)
theorem IsMapB.noB8{w:AaS}{b:Nat}(h:IsMapB w b):D7 w b:=fun j x hc=>by
  obtain⟨es,c,hm⟩:=h;unfold Ade at hc;rw[hm]at hc;simp at hc
theorem JJ{w:AaS}{g k:Nat}{v:AaR}{T:AaZ}{fr:Nat × Nat}(hb:w.heap[g]? =some (.cells ([v,NI k]).toArray T fr))(hv:∃ao n c,v = .slice ao n c):D7 w g:=fun j x hc=>by
  obtain⟨ao,n,c,rfl⟩:=hv;unfold Ade at hc;rw[hb]at hc
  match j,hc with
  | 0,hc=>simp at hc
  | 1,hc=>simp at hc
  | j+2,hc=>simp at hc
theorem RB.keepN{w w' :AaS}{b:Nat}{v:AaR}{l:List UInt8}(h:RB w v l)(hm:D7 w b)(hg:w.grownBy w' (some b)):RB w' v l:=by
  by_cases hv:v.ownBlock=some b
  · obtain⟨h1,ao,cap,rfl,h2,h3,h4,h5⟩:=h;refine⟨h1,ao,cap,rfl,h2,h3,h4,fun a ha j u hu=> ?_⟩;subst ha;exfalso;have hb:a.block=b:=by injection hv
    have hc:=h5 a rfl j u hu;have hj:j<l.length:=by have:=(Abn.1 hu).1;rwa [Aa8]at this
    rw[IW hj]at hu;cases hu;have hsp:=AdI hc;obtain⟨ab,ao,asp⟩:=a;have e:({ block:=ab,off:=ao,spot:=asp } :Addr).add j=⟨b,(({ block:=ab,off:=ao,spot:=asp } :Addr).add j).off,none⟩:=by
      have h1:(({ block:=ab,off:=ao,spot:=asp } :Addr).add j).block=b:=by rw[←hb];unfold AcU;split <;> rfl
      generalize ({ block:=ab,off:=ao,spot:=asp } :Addr).add j=q at h1 hsp ⊢
      obtain⟨q1,q2,q3⟩:=q;simp only at h1 hsp;rw[h1,hsp]
    rw[e]at hc;exact hm _ _ hc
  · exact h.kept hg (.inr hv)
theorem MOk.keepN{w w' :AaS}{b:Nat}{M:Bs→Option Ag}(h:MOk w M)(hm:D7 w b)(hg:w.grownBy w' (some b)):MOk w' M:=fun a c hc=>⟨(h a c hc).1.keepN hm hg,(h a c hc).2⟩
theorem BX.keep{w0 w w' :AaS}{r:Option Nat}(h:BX w0.heap.size r w0 w)(k:Ext w w'):BX w0.heap.size r w0 w' :=h.trans (Yi k h.size)
theorem BX.set{w0 w w' :AaS}{r:Option Nat}{g:Nat}(h:BX w0.heap.size r w0 w)(hg:w.grownBy w' (some g))(hn:w0.heap.size≤g):BX w0.heap.size r w0 w' :=h.trans (Yj hg h.size (fun k hk=>by cases hk;exact .inr hn))
theorem BX.put{w0 w w' :AaS}{b:Nat}(h:BX w0.heap.size (some b) w0 w)(hg:w.grownBy w' (some b)):BX w0.heap.size (some b) w0 w' :=h.trans (Yj hg h.size (fun k hk=> .inl hk))
def HOk(w:AaS)(M:Bs→Option Ag)(H:Bs→Option Cp):Prop:=∀id x,H id=some x→RB w x.2 x.1.1∧∃n d,A6 (AD M) n (AD M id)=some d∧BL (AD M) (d+1) id=some x.1
theorem HOk.keep{w w' :AaS}{M:Bs→Option Ag}{H:Bs→Option Cp}(h:HOk w M H)(k:Ext w w'):HOk w' M H:=fun a c hc=>⟨(h a c hc).1.keep k,(h a c hc).2⟩
theorem HOk.keepN{w w' :AaS}{b:Nat}{M:Bs→Option Ag}{H:Bs→Option Cp}(h:HOk w M H)(hm:D7 w b)(hg:w.grownBy w' (some b)):HOk w' M H:=fun a c hc=>⟨(h a c hc).1.keepN hm hg,(h a c hc).2⟩
theorem HOk.nil{w:AaS}{M:Bs→Option Ag}:HOk w M (fun _=>none):=fun _ _ h=>by cases h
theorem HOk.put{w:AaS}{M:Bs→Option Ag}{H:Bs→Option Cp}(h:HOk w M H){id:Bs}{x:Cp}(h1:RB w x.2 x.1.1){n d:Nat}(h2:A6 (AD M) n (AD M id)=some d)(h3:BL (AD M) (d+1) id=some x.1):HOk w M (updM H id (some x)):=fun a c hc=>by
  unfold updM at hc;split at hc
  · rename_i e
    cases hc;subst e;exact⟨h1,n,d,h2,h3⟩
  · exact h a c hc
section
variable {E : Bs → Ent}
theorem Nn{n m:Nat}{e:Ent}{d d' :Nat}(h:A6 E n e=some d)(h' :A6 E m e=some d'):d=d' :=by
  have h1:=Gd n (max d d') e d h (Nat.le_max_left _ _);have h2:=Gd m (max d d') e d' h' (Nat.le_max_right _ _);rw[h1]at h2;cases h2;rfl
theorem No{n:Nat}{e:Ent}{d:Nat}(hb:e.based=true)(h:A6 E n e=some d):∃n' d',d=d' +1∧A6 E n' (E e.base)=some d' :=by
  cases n with
  | zero=>rw[EW hb]at h;cases h
  | succ n=>
    rw[DB hb]at h;cases h1:A6 E n (E e.base)with
    | none=>rw[h1]at h;cases h
    | some d1=>rw[h1]at h;cases h;exact⟨n,d1,rfl,h1⟩
theorem FA{n:Nat}{id:Bs}(hb:(E id).based=true):BL E (n+1) id=(BL E n (E id).base).bind fun x=>if(A5 x.1 (E id).bytes).2=0 then(if(A5 x.1 (E id).bytes).1.length≤262144 then some ((A5 x.1 (E id).bytes).1,x.2+1)else none)else none:=by
  show(if _=true then _ else _)=_;rw[if_pos hb]
theorem Ge{n:Nat}{id:Bs}(hb:(E id).based=false):BL E (n+1) id=if(E id).bytes.length≤262144 then some ((E id).bytes,0)else none:=by
  show(if _=true then _ else _)=_;rw[if_neg (by rw[hb];decide)]
theorem Hw:∀ {n:Nat} {id:Bs} {b:Bs} {k:Nat},BL E n id=some (b,k)→b.length≤262144∧k<n
  | 0,_,_,_,h=>by cases h
  | n+1,id,b,k,h=>by
    cases hb:(E id).based with
    | false=>
      rw[Ge hb]at h;split at h
      · cases h;exact⟨‹_›,Nat.succ_pos _⟩
      · cases h
    | true=>
      rw[FA hb]at h;cases h1:BL E n (E id).base with
      | none=>rw[h1]at h;cases h
      | some x=>
        rw[h1]at h;have h2:(if(A5 x.1 (E id).bytes).2=0 then(if(A5 x.1 (E id).bytes).1.length≤262144 then some ((A5 x.1 (E id).bytes).1,x.2+1)else none)else none)=some (b,k):=h;split at h2
        · split at h2
          · cases h2;have:=Hw (b:=x.1) (k:=x.2) h1;exact⟨‹_›,by omega⟩
          · cases h2
        · cases h2
end
theorem Bf:(Tryz.prog.info? 215).map (·.size)=some 2:=by kernel_rfl
theorem DG{d:Option Tmp}{ty:AaZ}{pos:String}{af:Array AbP}{gd:Option (Nat × Bool)}(σ:Aa5→AaR)(w:AaS):(execOp σ ⟨d, .alloc 215,ty,pos,af,gd⟩).run AaU w = .ok (.value (PQ w.heap.size 0)) (w.alloc (.cells ([(Aa0 none 0 0),NI 0]).toArray 215)):=by kernel_rfl
theorem D8:A2 AaU 212 1 1:=fun b o w=>by simp[go_sem]
theorem CH:Tryz.prog.underlying 161=some (.map 33 215):=by kernel_rfl
theorem HW{z0:AaR}(h0:∃ao n c,z0 = .slice ao n c)(w:AaS):(AcJ 215 #[(0,z0)]).run AaU w = .ok (.agg ([z0,NI 0]:List AaR).toArray) w:=by obtain⟨_,_,_,rfl⟩:=h0;kernel_rfl
theorem Gf:A2 AaU 215 0 0:=fun b o w=>by simp[go_sem]
theorem Dm:∃fs,Tryz.prog.underlying 215=some (.struct fs):=Fo (by kernel_rfl)
theorem Qa:Plain AaU 134:=fun _ _=>by kernel_rfl
theorem Qb:Plain AaU 173:=fun _ _=>by kernel_rfl
theorem Np:A2 AaU 215 1 1:=fun b o w=>by simp[go_sem]
theorem Kx{z0:AaR}(h0:∃ao n c,z0 = .slice ao n c)(z1:Int)(w:AaS):(AcJ 215 #[(0,z0),(1, .int .i64 z1)]).run AaU w = .ok (.agg ([z0, .int .i64 z1]:List AaR).toArray) w:=by obtain⟨_,_,_,rfl⟩:=h0;kernel_rfl
theorem Qc(gm be bm:Nat)(M:Bs→Option Ag)(d:Nat)(ih:∀d1,d1<d→∀(w:AaS) (H:Bs→Option Cp) (id:Bs) (hmk:w.heap[gm]? =some (.cells ([.map (some be), .map (some bm)]).toArray 212 (0,0))) (hme:MapF rk BA (fun id:List UInt8=>id.length=32) w be M) (hmm:MapF rk Ch (fun id:List UInt8=>id.length=32) w bm H) (hMO:MOk w M) (hHO:HOk w M H) (hne:be≠bm) (hid:id.length=32) (hd50:d1≤50) (n0:Nat) (hdp:A6 (AD M) n0 (AD M id)=some d1) (n0w:Nat) (hNM:NewM n0w M) (hNH:NewM n0w H) (b7:n0w≤w.heap.size),Calls AaU 134 #[PQ gm 0,AB id] w fun r w' =>(∃x,r = .returned x∧∃v b k H',x = .agg ([v,NI k]).toArray∧BL (AD M) (d1+1) id=some (b,k)∧RB w' v b∧MapF rk Ch (fun id:List UInt8=>id.length=32) w' bm H' ∧HOk w' M H' ∧BX w.heap.size (some bm) w w' ∧NewV n0w v∧NewM n0w H')∨∃ch,r = .panicked ch∧BL (AD M) (d1+1) id=none∧ch= [CO 6]∧BX w.heap.size (some bm) w w')(w:AaS)(H:Bs→Option Cp)(id:Bs)(hmk:w.heap[gm]? =some (.cells ([.map (some be), .map (some bm)]).toArray 212 (0,0)))(hme:MapF rk BA (fun id:List UInt8=>id.length=32) w be M)(hmm:MapF rk Ch (fun id:List UInt8=>id.length=32) w bm H)(hMO:MOk w M)(hHO:HOk w M H)(hne:be≠bm)(hid:id.length=32)(hd50:d≤50)(n0:Nat)(hdp:A6 (AD M) n0 (AD M id)=some d)(n0w:Nat)(hNM:NewM n0w M)(hNH:NewM n0w H)(b7:n0w≤w.heap.size):
  Calls AaU 134 #[PQ gm 0,AB id] w fun r w' =>(∃x,r = .returned x∧∃v b k H',x = .agg ([v,NI k]).toArray∧BL (AD M) (d+1) id=some (b,k)∧RB w' v b∧MapF rk Ch (fun id:List UInt8=>id.length=32) w' bm H' ∧HOk w' M H' ∧BX w.heap.size (some bm) w w' ∧NewV n0w v∧NewM n0w H')∨∃ch,r = .panicked ch∧BL (AD M) (d+1) id=none∧ch= [CO 6]∧BX w.heap.size (some bm) w w' :=by
 have hX:=BX.refl w.heap.size (some bm) w;have hgb:gm≠bm:=fun e=>by obtain⟨es_,c_,h_⟩:=YJ hmm;rw[←e,hmk]at h_;cases h_
 have hbl:=hmm.lt;have hgl:=(bl hmk);have hel:=hme.lt;refine gG (args:= [PQ gm 0,AB id]) Tryz.func134 rfl 66 rfl rfl ?_;have hE:=Ext.refl w;refine gS (Yk.box (vr (AB id) rfl) fun n2 w3 bd ci a6 ew=> ?_);have ex:=Ar hme.lt bd;have ey:=Ar hmm.lt bd;have f:=ci;clear ci;have ez:n2<w3.heap.size:=by omega
 refine gS (Yk.alloc DG fun am dv aq cj b8 e0=> ?_);have hE:=hE.trans a6;have dw:=hE.size;have hme:=hme.keep a6;have e1:=Ar hme.lt aq;have hmm:=hmm.keep a6;have e2:=Ar hmm.lt aq;have g:=cj;clear cj;have e3:am<dv.heap.size:=by omega
 rcases hH:H id with _ | x
 ·rcases hb:(AD M id).based with _ | _
  ·have hcg:=Ge (n:=d) (E:=AD M) hb;have hbx:((M (id)).getD dEnt).1.based=false:=hb;refine DV [0,1,2,3,4,5,6,7,8,9,10,11] [9,10] [1,2,7,8] [3,4,5] fun ck cl=> ?_;have m:=Ext.refl ck;have hZ1:=b8.trans cl;have hE:=hE.trans hZ1;have dx:=hE.size;have bq:=Ext.refl ck;have cm:=Ar (bl hmk) bd;have hmk:=eb a6 hmk;have cn:=Ar (bl hmk) aq;have hmk:=eb hZ1 hmk;have co:=Ar (bl f) aq;have f:=eb hZ1 f;have hmm:=hmm.keep hZ1;refine DQ bq ?_;refine yp (Yk.nilCheck rfl zz) (yp (Yk.fieldAt D8 rfl zz) (yf (fun _ ⟨hZ,_⟩=>XJ CH rfl rfl (cellAt (eb hZ hmk) rfl) zz) (yf (fun _ ⟨hZ,_⟩=>XO rfl (eb hZ f) UY rfl (by exact Ac hid) zz) (yf (fun _ ⟨hZ,_⟩=>Yw (ek:=rk) (ev:=Ch) (D:=(fun id:List UInt8=>id.length=32)) Ce Cf (fun _ _=>B9) CH (z:=Ch K6) G4 rfl rfl (hmm.keep hZ) hid hH zz) (yp (Yk.extract (vs:= [.agg ([(Aa0 none 0 0),NI 0]).toArray, .bool (false)]) rfl rfl zz) (yp (Yk.extract (vs:= [.agg ([(Aa0 none 0 0),NI 0]).toArray, .bool (false)]) rfl rfl zz) (yE (Yk.alloc DG fun b9 dy br cp az e4=> ?_))))))));have hme:=hme.keep hZ1;have e5:=Ar hme.lt br;have e6:=Ar hmm.lt br;have ar:=cp;clear cp;have e7:b9<dy.heap.size:=by omega
   have bq:=bq.trans az;refine⟨bq,?_⟩;refine yD rfl (XN (vr (PQ b9 0) rfl) (vr (.agg ([(Aa0 none 0 0),NI 0]).toArray) rfl) ar rfl (show(Tryz.prog.info? 215).map (·.size)=some 2 from Bf) (Cn rfl) fun e8 cq a7 e9=> ?_);have hme:=hme.keep az;have hme:=MapF.other hme a7 (Am (by omega));have hmm:=hmm.keep az;have hmm:=MapF.other hmm a7 (Am (by omega));clear ar;have ar:=cq;clear cq;have fa:=bl ar;refine cF rfl (DV [0,1,2,3,4,5,6,7] [6,7] [1,2] [3,4,5] fun cr a0=> ?_);have ad:=Ext.refl cr;have hE:=hE.trans az;have hE:=Ab hE a7 (AaV dx (by omega));have hE:=hE.trans a0;have m:=m.trans az;have m:=Ab m a7 (AaV (AaX _) (by omega));have m:=m.trans a0;have dz:=hE.size;have bs:=Ext.refl cr;have fb:=Ar (bl hmk) br;have hmk:=eb az hmk;have hmk:=kb a7 hmk (by omega);have hmk:=eb a0 hmk;have fc:=Ar (bl f) br;have f:=eb az f;have f:=kb a7 f (by omega);have f:=eb a0 f;have hme:=hme.keep a0;refine DQ bs ?_;refine yp (Yk.nilCheck rfl zz) (yp (Yk.fieldAt Iv rfl zz) (yf (fun _ ⟨hZ,_⟩=>XJ Kw rfl rfl (cellAt (eb hZ hmk) rfl) zz) (yf (fun _ ⟨hZ,_⟩=>XO rfl (eb hZ f) UY rfl (by exact Ac hid) zz) (yf (fun _ ⟨hZ,_⟩=>Y2 (ek:=rk) (ev:=BA) (D:=(fun id:List UInt8=>id.length=32)) (df:=dEnt) Ce Cf (fun _ _=>B9) Kw Da rfl rfl (hme.keep hZ) hid zz) (yE (Yk.alloc Hv fun ca d0 bt cs au fd=> ?_))))));have fe:=Ar hme.lt bt;have hmm:=hmm.keep a0;have ff:=Ar hmm.lt bt;have ae:=cs;clear cs;have fg:ca<d0.heap.size:=by omega
   have bs:=bs.trans au;refine⟨bs,?_⟩;refine yD rfl (XN (vr (PQ ca 0) rfl) (vr (.agg (entC ((M (id)).getD dEnt)).toArray) rfl) ae (Bo (x:=(((M (id)).getD dEnt):Ag)) (y:=(dEnt:Ag)) (hMO.get (id)).2.1 (by simp[dEnt])) (Bc (x:=(((M (id)).getD dEnt):Ag)) Ey (hMO.get (id)).2.1) (Bw (x:=(((M (id)).getD dEnt):Ag)) (RB.one (hMO.get (id)).1).2) fun ct cu a1 fh=> ?_);have hme:=hme.keep au;have hme:=MapF.other hme a1 (Am (by omega));have hmm:=hmm.keep au;have hmm:=MapF.other hmm a1 (Am (by omega));clear ae;have ae:=cu;clear cu;have fi:=bl ae;refine gS (Yk.fieldAt Iu rfl ?_);have hE:=hE.trans au;have hE:=Ab hE a1 (AaV dz (by omega));have hre91:RB ct (((M (id)).getD dEnt)).2 (AD M id).bytes:=(MOk.get (hMO.keep hE) id).1;refine gS (XJ F5 rfl rfl (cellAt ae (Nh (x:=(((M (id)).getD dEnt):Ag)) (hMO.get (id)).2.1)) (gS (Y5 (vr ((((M (id)).getD dEnt)).2) rfl) (fun w=>HW (RB.slice hre91) w) (gS (Yk.alloc DG fun cb d3 cv cw bf fj=> ?_)))));have s:=Ext.refl ct;have d4:=m.size;have m:=m.trans au;have m:=Ab m a1 (AaV d4 (by omega));have ad:=ad.trans au;have ad:=Ab ad a1 (AaV (AaX _) (by omega));have fk:=hE.size;have fl:=Ar hme.lt cv;have fm:=Ar hmm.lt cv;have ah:=cw;clear cw;have fn:cb<d3.heap.size:=by omega
   have s:=s.trans bf;refine gS (XN (vr (PQ cb 0) rfl) (vr (.agg ([(((M (id)).getD dEnt)).2,NI 0]).toArray) rfl) ah rfl (show(Tryz.prog.info? 215).map (·.size)=some 2 from Bf) (Cn (RB.one (hre91.keep s)).2) fun fo cx bg fp=> ?_);have hme:=hme.keep bf;have hme:=MapF.other hme bg (Am (by omega));have hmm:=hmm.keep bf;have hmm:=MapF.other hmm bg (Am (by omega));clear ah;have ah:=cx;clear cx;have fq:=bl ah;have s:=Ab s bg (AaV (AaX _) (by omega));have ae:=eb s ae;refine gS (Yk.fieldAt F9 rfl (gS (XJ JI rfl rfl (cellAt ae ((show(entC (((M (id)).getD dEnt)))[1]? =some (.bool false:AaR)from congrArg (fun b=>some (AbA b)) hbx))) (cF rfl (gS (Yk.fieldAt Gf rfl (gS (XJ F5 rfl rfl (cellAt ah rfl) (gS (XS F5 (XP (hre91.keep s) rfl) (gS (XK (a:=(((AD M id).bytes:List UInt8).length:Nat)) (b:=(262144:Nat)) rfl rfl (Dw _ _ _ _) (gP (XZ FP rfl rfl ?_))))))))))))));refine Ap (AS _ (decide ((((AD M id).bytes:List UInt8).length)≤(262144))) 6) ?_ ?_;rotate_left
   ·rintro ch fr ⟨rfl,hb,hx⟩;refine As ?_;have hno:=of_decide_eq_false hb;have hE:=hE.trans s;refine .inr ⟨_,rfl,?_,rfl,(BX.keep (hX.keep hE) hx)⟩;rw[hcg];exact if_neg hno
   rintro v_ fs ⟨rfl,d5,d6⟩;have d7:=of_decide_eq_true d5;have hcf:BL (AD M) (d+1) id=some ((AD M id).bytes,0):=hcg.trans (if_pos d7);refine CC [0,1,2,3,4,5,6] [6] [] fun d8 d9=> ?_;have ft:=Ar (bl hmk) bt;have hmk:=eb au hmk;have hmk:=kb a1 hmk (by omega);have hZ2:=d6.trans d9;have s:=s.trans hZ2;have hmk:=eb s hmk;have fu:=Ar (bl f) bt;have f:=eb au f;have f:=kb a1 f (by omega);have f:=eb s f;have hmm:=hmm.keep hZ2;have ah:=eb hZ2 ah;refine ys (Yk.nilCheck rfl zz) (ys (Yk.fieldAt D8 rfl zz) (ys (XJ CH rfl rfl (cellAt hmk rfl) zz) (ys (XO rfl f UY rfl (by exact Ac hid) zz) (ys (XO rfl ah (Dm).choose_spec rfl (show(Tryz.prog.info? 215).map (·.size)=some 2 from Bf) zz) (yC (YA (ek:=rk) (ev:=Ch) (D:=(fun id:List UInt8=>id.length=32)) (c:=((((AD M id).bytes,0),(((M (id)).getD dEnt)).2):Cp)) Ce Cf CH (vr (.map (some bm)) rfl) (vr (AB id) rfl) (vr (.agg ([(((M (id)).getD dEnt)).2,NI 0]).toArray) rfl) hmm hid fun ac cc ai fv=> ?_))))));have hE:=hE.trans s;have hP:=HOk.put (hHO.keep hE) (id:=id) (x:=((((AD M id).bytes,0),(((M (id)).getD dEnt)).2):Cp)) (hre91.keep s) hdp hcf;have hm137:D7 d8 bm:=(YJ hmm).noB8;have hX:BX w.heap.size (some bm) w ac:=BX.put (hX.keep hE) ai;have hmk:ac.heap[gm]? =some (.cells ([.map (some be), .map (some bm)]).toArray 212 (0,0)):=kb ai hmk (by omega);have hme:=hme.keep hZ2;have hme:MapF rk BA (fun id:List UInt8=>id.length=32) ac be M:=MapF.other hme ai (Am (by omega));clear hmm;have hMO:MOk ac M:=(hMO.keep hE).keepN hm137 ai;have f:ac.heap[n2]? =some (.cells (AaT id).toArray 33 (0,0)):=kb ai f (by omega);have ea:=m.size;have m:=m.trans bf;have m:=Ab m bg (AaV ea (by omega));have m:=m.trans hZ2;have g:=eb (cl.trans m) g;have g:ac.heap[am]? =some (.cells ([(Aa0 none 0 0),NI 0]).toArray 215 (0,0)):=kb ai g (by omega);have ec:=ad.size;have ad:=ad.trans bf;have ad:=Ab ad bg (AaV ec (by omega));have ad:=ad.trans hZ2;have ar:=eb (a0.trans ad) ar;have ar:ac.heap[b9]? =some (.cells ([(Aa0 none 0 0),NI 0]).toArray 215 (0,0)):=kb ai ar (by omega);have ae:=eb hZ2 ae;have ae:ac.heap[ca]? =some (.cells (entC (((M (id)).getD dEnt))).toArray 208 (0,0)):=kb ai ae (by omega);have hre91:RB ac (((M (id)).getD dEnt)).2 (AD M id).bytes:=(hre91.keep s).keepN hm137 ai;have ah:ac.heap[cb]? =some (.cells ([(((M (id)).getD dEnt)).2,NI 0]).toArray 215 (0,0)):=kb ai ah (by omega);have hP:HOk ac M (updM H (id) (some (((((AD M id).bytes,0),(((M (id)).getD dEnt)).2):Cp)))):=hP.keepN hm137 ai;have fw:=Ext.refl ac;have fx:=hX.size;refine gS (XO rfl ah (Dm).choose_spec rfl (show(Tryz.prog.info? 215).map (·.size)=some 2 from Bf) (gS (XN (vr (PQ am 0) rfl) (vr (.agg ([(((M (id)).getD dEnt)).2,NI 0]).toArray) rfl) g rfl (show(Tryz.prog.info? 215).map (·.size)=some 2 from Bf) (Cn (RB.one hre91).2) fun bh cy a8 fy=> ?_)));have hnb_:D7 ac am:=JJ g ⟨_,_,_,rfl⟩;have hX:BX w.heap.size (some bm) w bh:=BX.set hX a8 (by omega);have hme:=MapF.other hme a8 (Am (by omega));have hMO:MOk bh M:=hMO.keepN hnb_ a8;have hre91:RB bh (((M (id)).getD dEnt)).2 (AD M id).bytes:=hre91.keepN hnb_ a8;have hP:HOk bh M (updM H (id) (some (((((AD M id).bytes,0),(((M (id)).getD dEnt)).2):Cp)))):=hP.keepN hnb_ a8;have cc:=MapF.other cc a8 (Am (by omega));clear g;have g:=cy;clear cy;have fz:=bl g;have f0:=Ext.refl bh;have f1:=hX.size;refine Lx rfl (ResF.row rfl g (Dm).choose_spec rfl ((show(Tryz.prog.info? 215).map (·.size)=some 2 from Bf))) ?_;exact .inl ⟨_,rfl,_,_,_,_,rfl,hcf,hre91,cc,hP,hX,(hNM.get id),NewM.put hNH id (hNM.get id)⟩
  have hcg:=FA (n:=d) (E:=AD M) hb;have hbx:((M (id)).getD dEnt).1.based=true:=hb;obtain⟨na_,d1,hd1,hdp1⟩:=No hb hdp;refine DV [0,1,2,3,4,5,6,7,8,9,10,11] [9,10] [1,2,7,8] [3,4,5] fun cz c0=> ?_;have o:=Ext.refl cz;have hZ3:=b8.trans c0;have hE:=hE.trans hZ3;have ed:=hE.size;have bu:=Ext.refl cz;have cm:=Ar (bl hmk) bd;have hmk:=eb a6 hmk;have cn:=Ar (bl hmk) aq;have hmk:=eb hZ3 hmk;have co:=Ar (bl f) aq;have f:=eb hZ3 f;have hmm:=hmm.keep hZ3;refine DQ bu ?_;refine yp (Yk.nilCheck rfl zz) (yp (Yk.fieldAt D8 rfl zz) (yf (fun _ ⟨hZ,_⟩=>XJ CH rfl rfl (cellAt (eb hZ hmk) rfl) zz) (yf (fun _ ⟨hZ,_⟩=>XO rfl (eb hZ f) UY rfl (by exact Ac hid) zz) (yf (fun _ ⟨hZ,_⟩=>Yw (ek:=rk) (ev:=Ch) (D:=(fun id:List UInt8=>id.length=32)) Ce Cf (fun _ _=>B9) CH (z:=Ch K6) G4 rfl rfl (hmm.keep hZ) hid hH zz) (yp (Yk.extract (vs:= [.agg ([(Aa0 none 0 0),NI 0]).toArray, .bool (false)]) rfl rfl zz) (yp (Yk.extract (vs:= [.agg ([(Aa0 none 0 0),NI 0]).toArray, .bool (false)]) rfl rfl zz) (yE (Yk.alloc DG fun bv ee bw c1 a2 f2=> ?_))))))));have hme:=hme.keep hZ3;have f3:=Ar hme.lt bw;have f4:=Ar hmm.lt bw;have j:=c1;clear c1;have f5:bv<ee.heap.size:=by omega
  have bu:=bu.trans a2;refine⟨bu,?_⟩;refine yD rfl (XN (vr (PQ bv 0) rfl) (vr (.agg ([(Aa0 none 0 0),NI 0]).toArray) rfl) j rfl (show(Tryz.prog.info? 215).map (·.size)=some 2 from Bf) (Cn rfl) fun f6 c2 a9 f7=> ?_);have hme:=hme.keep a2;have hme:=MapF.other hme a9 (Am (by omega));have hmm:=hmm.keep a2;have hmm:=MapF.other hmm a9 (Am (by omega));clear j;have j:=c2;clear c2;have f8:=bl j;refine cF rfl (DV [0,1,2,3,4,5,6,7] [6,7] [1,2] [3,4,5] fun c3 a3=> ?_);have ak:=Ext.refl c3;have hE:=hE.trans a2;have hE:=Ab hE a9 (AaV ed (by omega));have hE:=hE.trans a3;have o:=o.trans a2;have o:=Ab o a9 (AaV (AaX _) (by omega));have o:=o.trans a3;have ef:=hE.size;have bx:=Ext.refl c3;have f9:=Ar (bl hmk) bw;have hmk:=eb a2 hmk;have hmk:=kb a9 hmk (by omega);have hmk:=eb a3 hmk;have ga:=Ar (bl f) bw;have f:=eb a2 f;have f:=kb a9 f (by omega);have f:=eb a3 f;have hme:=hme.keep a3;refine DQ bx ?_;refine yp (Yk.nilCheck rfl zz) (yp (Yk.fieldAt Iv rfl zz) (yf (fun _ ⟨hZ,_⟩=>XJ Kw rfl rfl (cellAt (eb hZ hmk) rfl) zz) (yf (fun _ ⟨hZ,_⟩=>XO rfl (eb hZ f) UY rfl (by exact Ac hid) zz) (yf (fun _ ⟨hZ,_⟩=>Y2 (ek:=rk) (ev:=BA) (D:=(fun id:List UInt8=>id.length=32)) (df:=dEnt) Ce Cf (fun _ _=>B9) Kw Da rfl rfl (hme.keep hZ) hid zz) (yE (Yk.alloc Hv fun bz eg b0 c4 av gb=> ?_))))));have gc:=Ar hme.lt b0;have hmm:=hmm.keep a3;have gd:=Ar hmm.lt b0;have h:=c4;clear c4;have ge:bz<eg.heap.size:=by omega
  have bx:=bx.trans av;refine⟨bx,?_⟩;refine yD rfl (XN (vr (PQ bz 0) rfl) (vr (.agg (entC ((M (id)).getD dEnt)).toArray) rfl) h (Bo (x:=(((M (id)).getD dEnt):Ag)) (y:=(dEnt:Ag)) (hMO.get (id)).2.1 (by simp[dEnt])) (Bc (x:=(((M (id)).getD dEnt):Ag)) Ey (hMO.get (id)).2.1) (Bw (x:=(((M (id)).getD dEnt):Ag)) (RB.one (hMO.get (id)).1).2) fun c5 c6 a4 gf=> ?_);have hme:=hme.keep av;have hme:=MapF.other hme a4 (Am (by omega));have hmm:=hmm.keep av;have hmm:=MapF.other hmm a4 (Am (by omega));clear h;have h:=c6;clear c6;have gg:=bl h;refine gS (Yk.fieldAt Iu rfl ?_);have hE:=hE.trans av;have hE:=Ab hE a4 (AaV ef (by omega));have hre211:RB c5 (((M (id)).getD dEnt)).2 (AD M id).bytes:=(MOk.get (hMO.keep hE) id).1;refine gS (XJ F5 rfl rfl (cellAt h (Nh (x:=(((M (id)).getD dEnt):Ag)) (hMO.get (id)).2.1)) (gS (Y5 (vr ((((M (id)).getD dEnt)).2) rfl) (fun w=>HW (RB.slice hre211) w) (gS (Yk.alloc DG fun ba eh c7 c8 bi gh=> ?_)))));have al:=Ext.refl c5;have ei:=o.size;have o:=o.trans av;have o:=Ab o a4 (AaV ei (by omega));have ak:=ak.trans av;have ak:=Ab ak a4 (AaV (AaX _) (by omega));have gi:=hE.size;have gj:=Ar hme.lt c7;have gk:=Ar hmm.lt c7;have i:=c8;clear c8;have gl:ba<eh.heap.size:=by omega
  have al:=al.trans bi;refine gS (XN (vr (PQ ba 0) rfl) (vr (.agg ([(((M (id)).getD dEnt)).2,NI 0]).toArray) rfl) i rfl (show(Tryz.prog.info? 215).map (·.size)=some 2 from Bf) (Cn (RB.one (hre211.keep al)).2) fun c9 da bj gn=> ?_);have hme:=hme.keep bi;have hme:=MapF.other hme bj (Am (by omega));have hmm:=hmm.keep bi;have hmm:=MapF.other hmm bj (Am (by omega));clear i;have i:=da;clear da;have go:=bl i;have gp:=Ar (bl hmk) b0;have hmk:=eb av hmk;have hmk:=kb a4 hmk (by omega);have al:=Ab al bj (AaV (AaX _) (by omega));have hmk:=eb al hmk;have h:=eb al h;have hE:=hE.trans al;refine gS (Yk.fieldAt F9 rfl (gS (XJ JI rfl rfl (cellAt h ((show(entC (((M (id)).getD dEnt)))[1]? =some (.bool true:AaR)from congrArg (fun b=>some (AbA b)) hbx))) (cT rfl (gS (Yk.fieldAt Nk rfl (gS (Yf rfl (El (x:=(((M (id)).getD dEnt):Ag)) h) UY rfl (by rw[Aa8,(hMO.get (id)).2.1];exact Rb) (gP (XZ Qa rfl rfl ?_))))))))));refine Ap (ih d1 (by omega) c9 H ((M (id)).getD dEnt).1.base hmk hme hmm (hMO.keep hE) (hHO.keep hE) hne (MOk.get (hMO.keep hE) id).2.1 (by omega) na_ hdp1 n0w hNM hNH (AaV b7 (hX.keep hE).size)) ?_ ?_;rotate_left
  ·rintro ch gq ⟨hno,rfl,hx⟩;refine As ?_;refine .inr ⟨_,rfl,?_,rfl,BX.put (hX.keep hE) hx.grown⟩;rw[hcg,show BL (AD M) d (AD M id).base=none from by rw[hd1];exact hno];rfl
  rintro v_ af ⟨a5,bb,kk,H1,rfl,db,ag,hm250,hHO251,ej,hNv1,hNH1⟩;have aj:=ej.grown;have hm257:D7 c9 bm:=(YJ hmm).noB8;have hX:BX w.heap.size (some bm) w af:=BX.put (hX.keep hE) aj;have hmk:af.heap[gm]? =some (.cells ([.map (some be), .map (some bm)]).toArray 212 (0,0)):=kb aj hmk (by omega);have hme:MapF rk BA (fun id:List UInt8=>id.length=32) af be M:=MapF.other hme aj (Am (by omega));clear hmm;have hMO:MOk af M:=(hMO.keep hE).keepN hm257 aj;have hHO:HOk af M H:=(hHO.keep hE).keepN hm257 aj;have gr:=Ar (bl f) b0;have f:=eb av f;have f:=kb a4 f (by omega);have f:=eb al f;have f:af.heap[n2]? =some (.cells (AaT id).toArray 33 (0,0)):=kb aj f (by omega);have el:=o.size;have o:=o.trans bi;have o:=Ab o bj (AaV el (by omega));have g:=eb (c0.trans o) g;have g:af.heap[am]? =some (.cells ([(Aa0 none 0 0),NI 0]).toArray 215 (0,0)):=kb aj g (by omega);have em:=ak.size;have ak:=ak.trans bi;have ak:=Ab ak bj (AaV em (by omega));have j:=eb (a3.trans ak) j;have j:af.heap[bv]? =some (.cells ([(Aa0 none 0 0),NI 0]).toArray 215 (0,0)):=kb aj j (by omega);have h:af.heap[bz]? =some (.cells (entC (((M (id)).getD dEnt))).toArray 208 (0,0)):=kb aj h (by omega);have hre211:RB af (((M (id)).getD dEnt)).2 (AD M id).bytes:=(hre211.keep al).keepN hm257 aj;have i:af.heap[ba]? =some (.cells ([(((M (id)).getD dEnt)).2,NI 0]).toArray 215 (0,0)):=kb aj i (by omega);have l:=Ext.refl af;have gs:=hX.size;have hcl:=Hw db;rw[show BL (AD M) d (AD M id).base=some (bb,kk)from by rw[hd1];exact db]at hcg;refine gS (Yk.alloc DG fun cd en aw dc an gt=> ?_);have gu:=Ar hme.lt aw;have gv:=Ar hm250.lt aw;have ab:=dc;clear dc;have gw:cd<en.heap.size:=by omega
  have l:=l.trans an;refine gS (XN (vr (PQ cd 0) rfl) (vr (.agg ([a5,NI kk]).toArray) rfl) ab rfl (show(Tryz.prog.info? 215).map (·.size)=some 2 from Bf) (Cn (RB.one (ag.keep l)).2) fun dd de ao gx=> ?_);have hme:=hme.keep an;have hme:=MapF.other hme ao (Am (by omega));have hm250:=hm250.keep an;have hm250:=MapF.other hm250 ao (Am (by omega));clear ab;have ab:=de;clear de;have gy:=bl ab;refine gS (Yk.fieldAt Gf rfl (gS (XJ F5 rfl rfl (cellAt ab rfl) (gS (Yk.fieldAt Iu rfl ?_)))));have l:=Ab l ao (AaV (AaX _) (by omega));have hre282:RB dd (((M (id)).getD dEnt)).2 (AD M id).bytes:=(MOk.get (hMO.keep l) id).1;have gz:=Ar (bl h) aw;have h:=eb an h;have h:=kb ao h (by omega);refine gS (XJ F5 rfl rfl (cellAt h (Nh (x:=(((M (id)).getD dEnt):Ag)) (hMO.get (id)).2.1)) (gS (XM Qb rfl rfl ((RE _ a5 (((M (id)).getD dEnt)).2 bb (AD M id).bytes (ag.keep l) hre282 (by omega) (by have:(AD M id).bytes.length≤1048576:=(MOk.get (hMO.keep l) id).2.2;omega)).mono ?_))));rintro e g0 ⟨t,rfl,q,dh,hap_⟩;refine⟨_,rfl,?_⟩;have hsz_:n0w≤dd.heap.size:=AaV b7 ((hX.keep l)).size;have hNa:NewV n0w t:=fun k hk=>AaV hsz_ (hap_ k hk).1;refine gS (Yk.extract (vs:= [t,NI ((A5 bb (AD M id).bytes).2)]) rfl rfl (gS (Yk.extract (vs:= [t,NI ((A5 bb (AD M id).bytes).2)]) rfl rfl (gS (XK (a:=((A5 bb (AD M id).bytes).2:Nat)) (b:=(0:Nat)) rfl rfl (AA _ _ _ _) (gP (XZ FP rfl rfl ?_)))))));refine Ap (AS _ (decide (((A5 bb (AD M id).bytes).2:Nat)=(0))) 6) ?_ ?_;rotate_left
  ·rintro ch g1 ⟨rfl,hb,hx⟩;refine As ?_;have hno:=of_decide_eq_false hb;have l:=l.trans dh;refine .inr ⟨_,rfl,?_,rfl,(BX.keep (hX.keep l) hx)⟩;rw[hcg];exact if_neg hno
  rintro v_ bc ⟨rfl,eo,di⟩;have ep:=of_decide_eq_true eo;have hap:=ep;have g2:=Ar (bl i) aw;have i:=eb an i;have i:=kb ao i (by omega);have hZ4:=dh.trans di;have i:=eb hZ4 i;have ab:=eb hZ4 ab;have q:=q.keep di;refine gS (Yk.fieldAt Np rfl (gS (XJ Tc rfl rfl (cellAt ab rfl) (gS (XL (xv:=NI kk) (yv:=NI 1) rfl rfl rfl (Ai _ _ _ (by omega)) (gS (Yx (vr t rfl) (vr (NI ((kk)+(1))) rfl) (fun w=>Kx (RB.slice q) ((((kk)+(1):Nat):Int)) w) (gS (XN (vr (PQ ba 0) rfl) (vr (.agg ([t,NI ((kk)+(1))]).toArray) rfl) i rfl (show(Tryz.prog.info? 215).map (·.size)=some 2 from Bf) (Cn (RB.one q).2) fun ax dj u g3=> ?_)))))))));have l:=l.trans hZ4;have hnb_:D7 bc ba:=JJ i (RB.slice (hre211.keep l));have hX:BX w.heap.size (some bm) w bc:=(hX.keep l);have hMO:MOk bc M:=(hMO.keep l);have hre211:RB bc (((M (id)).getD dEnt)).2 (AD M id).bytes:=(hre211.keep l);have ag:RB bc a5 bb:=(ag.keep l);have hHO251:HOk bc M H1:=(hHO251.keep l);have hX:BX w.heap.size (some bm) w ax:=BX.set hX u (by omega);have hme:=hme.keep hZ4;have hme:=MapF.other hme u (Am (by omega));have hMO:MOk ax M:=hMO.keepN hnb_ u;have hre211:RB ax (((M (id)).getD dEnt)).2 (AD M id).bytes:=hre211.keepN hnb_ u;have ag:RB ax a5 bb:=ag.keepN hnb_ u;have hm250:=hm250.keep hZ4;have hm250:=MapF.other hm250 u (Am (by omega));have hHO251:HOk ax M H1:=hHO251.keepN hnb_ u;have hre282:=hre282.keep hZ4;have hre282:RB ax (((M (id)).getD dEnt)).2 (AD M id).bytes:=hre282.keepN hnb_ u;have q:RB ax t (A5 bb (AD M id).bytes).1:=q.keepN hnb_ u;clear i;have i:=dj;clear dj;have g4:=bl i;have g5:=Ext.refl ax;have g6:=hX.size;refine gS (Yk.fieldAt Gf rfl (gS (XJ F5 rfl rfl (cellAt i rfl) (gS (XS F5 (XP q rfl) (gS (XK (a:=(((A5 bb (AD M id).bytes).1:List UInt8).length:Nat)) (b:=(262144:Nat)) rfl rfl (Dw _ _ _ _) (gP (XZ FP rfl rfl ?_)))))))));refine Ap (AS _ (decide ((((A5 bb (AD M id).bytes).1:List UInt8).length)≤(262144))) 6) ?_ ?_;rotate_left
  ·rintro ch g7 ⟨rfl,hb,hx⟩;refine As ?_;have hno:=of_decide_eq_false hb;refine .inr ⟨_,rfl,?_,rfl,(BX.keep hX hx)⟩;rw[hcg];exact(if_pos hap).trans (if_neg hno)
  rintro v_ ce ⟨rfl,eq,b1⟩;have hX:BX w.heap.size (some bm) w ce:=(hX.keep b1);have hMO:MOk ce M:=(hMO.keep b1);have hHO251:HOk ce M H1:=(hHO251.keep b1);have er:=of_decide_eq_true eq;have hcf:BL (AD M) (d+1) id=some ((A5 bb (AD M id).bytes).1,kk+1):=hcg.trans ((if_pos hap).trans (if_pos er));refine CC [0,1,2,3,4,5,6] [6] [] fun b2 b3=> ?_;have hX:BX w.heap.size (some bm) w b2:=(hX.keep b3);have hMO:MOk b2 M:=(hMO.keep b3);have hHO251:HOk b2 M H1:=(hHO251.keep b3);have g8:=Ar (bl hmk) aw;have hmk:=eb an hmk;have hmk:=kb ao hmk (by omega);have hmk:=eb hZ4 hmk;have hmk:=kb u hmk (by omega);have hZ5:=b1.trans b3;have hmk:=eb hZ5 hmk;have g9:=Ar (bl f) aw;have f:=eb an f;have f:=kb ao f (by omega);have f:=eb hZ4 f;have f:=kb u f (by omega);have f:=eb hZ5 f;have hm250:=hm250.keep hZ5;have i:=eb hZ5 i;refine ys (Yk.nilCheck rfl zz) (ys (Yk.fieldAt D8 rfl zz) (ys (XJ CH rfl rfl (cellAt hmk rfl) zz) (ys (XO rfl f UY rfl (by exact Ac hid) zz) (ys (XO rfl i (Dm).choose_spec rfl (show(Tryz.prog.info? 215).map (·.size)=some 2 from Bf) zz) (yC (YA (ek:=rk) (ev:=Ch) (D:=(fun id:List UInt8=>id.length=32)) (c:=((((A5 bb (AD M id).bytes).1,(kk)+(1)),t):Cp)) Ce Cf CH (vr (.map (some bm)) rfl) (vr (AB id) rfl) (vr (.agg ([t,NI ((kk)+(1))]).toArray) rfl) hm250 hid fun p cf aa ha=> ?_))))));have q:=q.keep hZ5;have hP:=HOk.put hHO251 (id:=id) (x:=((((A5 bb (AD M id).bytes).1,(kk)+(1)),t):Cp)) q hdp hcf;have hm315:D7 b2 bm:=(YJ hm250).noB8;have hX:BX w.heap.size (some bm) w p:=BX.put hX aa;have hmk:p.heap[gm]? =some (.cells ([.map (some be), .map (some bm)]).toArray 212 (0,0)):=kb aa hmk (by omega);have hme:=hme.keep hZ5;have hme:MapF rk BA (fun id:List UInt8=>id.length=32) p be M:=MapF.other hme aa (Am (by omega));have hMO:MOk p M:=hMO.keepN hm315 aa;have f:p.heap[n2]? =some (.cells (AaT id).toArray 33 (0,0)):=kb aa f (by omega);have hc:=Ar (bl g) aw;have g:=eb an g;have g:=kb ao g (by omega);have g:=eb hZ4 g;have g:=kb u g (by omega);have g:=eb hZ5 g;have g:p.heap[am]? =some (.cells ([(Aa0 none 0 0),NI 0]).toArray 215 (0,0)):=kb aa g (by omega);have hd:=Ar (bl j) aw;have j:=eb an j;have j:=kb ao j (by omega);have j:=eb hZ4 j;have j:=kb u j (by omega);have j:=eb hZ5 j;have j:p.heap[bv]? =some (.cells ([(Aa0 none 0 0),NI 0]).toArray 215 (0,0)):=kb aa j (by omega);have h:=eb hZ4 h;have h:=kb u h (by omega);have h:=eb hZ5 h;have h:p.heap[bz]? =some (.cells (entC (((M (id)).getD dEnt))).toArray 208 (0,0)):=kb aa h (by omega);have hre211:=hre211.keep hZ5;have hre211:RB p (((M (id)).getD dEnt)).2 (AD M id).bytes:=hre211.keepN hm315 aa;have ag:=ag.keep hZ5;have ag:RB p a5 bb:=ag.keepN hm315 aa;clear hm250;have ab:=kb u ab (by omega);have ab:=eb hZ5 ab;have ab:p.heap[cd]? =some (.cells ([a5,NI kk]).toArray 215 (0,0)):=kb aa ab (by omega);have hre282:=hre282.keep hZ5;have hre282:RB p (((M (id)).getD dEnt)).2 (AD M id).bytes:=hre282.keepN hm315 aa;have q:RB p t (A5 bb (AD M id).bytes).1:=q.keepN hm315 aa;have i:p.heap[ba]? =some (.cells ([t,NI ((kk)+(1))]).toArray 215 (0,0)):=kb aa i (by omega);have hP:HOk p M (updM H1 (id) (some (((((A5 bb (AD M id).bytes).1,(kk)+(1)),t):Cp)))):=hP.keepN hm315 aa;have he:=Ext.refl p;have hf:=hX.size;refine gS (XO rfl i (Dm).choose_spec rfl (show(Tryz.prog.info? 215).map (·.size)=some 2 from Bf) (gS (XN (vr (PQ am 0) rfl) (vr (.agg ([t,NI ((kk)+(1))]).toArray) rfl) g rfl (show(Tryz.prog.info? 215).map (·.size)=some 2 from Bf) (Cn (RB.one q).2) fun ay dk ap hg=> ?_)));have hnb_:D7 p am:=JJ g ⟨_,_,_,rfl⟩;have hX:BX w.heap.size (some bm) w ay:=BX.set hX ap (by omega);have hme:=MapF.other hme ap (Am (by omega));have hMO:MOk ay M:=hMO.keepN hnb_ ap;have hre211:RB ay (((M (id)).getD dEnt)).2 (AD M id).bytes:=hre211.keepN hnb_ ap;have ag:RB ay a5 bb:=ag.keepN hnb_ ap;have hre282:RB ay (((M (id)).getD dEnt)).2 (AD M id).bytes:=hre282.keepN hnb_ ap;have q:RB ay t (A5 bb (AD M id).bytes).1:=q.keepN hnb_ ap;have hP:HOk ay M (updM H1 (id) (some (((((A5 bb (AD M id).bytes).1,(kk)+(1)),t):Cp)))):=hP.keepN hnb_ ap;have cf:=MapF.other cf ap (Am (by omega));clear g;have g:=dk;clear dk;have hh:=bl g;have hi:=Ext.refl ay;have hj:=hX.size;refine Lx rfl (ResF.row rfl g (Dm).choose_spec rfl ((show(Tryz.prog.info? 215).map (·.size)=some 2 from Bf))) ?_;exact .inl ⟨_,rfl,_,_,_,_,rfl,hcf,q,cf,hP,hX,hNa,NewM.put hNH1 id hNa⟩
 obtain⟨hxr,nb_,d2,es,dl⟩:=hHO id x hH;have hdd:=Nn hdp es;rw[←hdd]at dl;have hnx:=hNH id x hH;refine DV [0,1,2,3,4,5,6,7,8,9,10,11] [9,10] [1,2,7,8] [3,4,5] fun dm dn=> ?_;have bk:=Ext.refl dm;have hZ6:=b8.trans dn;have hE:=hE.trans hZ6;have et:=hE.size;have b4:=Ext.refl dm;have cm:=Ar (bl hmk) bd;have hmk:=eb a6 hmk;have cn:=Ar (bl hmk) aq;have hmk:=eb hZ6 hmk;have co:=Ar (bl f) aq;have f:=eb hZ6 f;have hmm:=hmm.keep hZ6;refine DQ b4 ?_;refine yp (Yk.nilCheck rfl zz) (yp (Yk.fieldAt D8 rfl zz) (yf (fun _ ⟨hZ,_⟩=>XJ CH rfl rfl (cellAt (eb hZ hmk) rfl) zz) (yf (fun _ ⟨hZ,_⟩=>XO rfl (eb hZ f) UY rfl (by exact Ac hid) zz) (yf (fun _ ⟨hZ,_⟩=>Yr (ek:=rk) (ev:=Ch) (D:=(fun id:List UInt8=>id.length=32)) Ce Cf (fun _ _=>B9) CH (z:=Ch K6) G4 rfl rfl (hmm.keep hZ) hid hH zz) (yp (Yk.extract (vs:= [.agg ([x.2,NI x.1.2]).toArray, .bool (true)]) rfl rfl zz) (yp (Yk.extract (vs:= [.agg ([x.2,NI x.1.2]).toArray, .bool (true)]) rfl rfl zz) (yE (Yk.alloc DG fun dp eu dq dr bn hl=> ?_))))))));have hme:=hme.keep hZ6;have hm:=Ar hme.lt dq;have hn:=Ar hmm.lt dq;have bo:=dr;clear dr;have ho:dp<eu.heap.size:=by omega
 have b4:=b4.trans bn;refine⟨b4,?_⟩;have hE:=hE.trans bn;refine yD rfl (XN (vr (PQ dp 0) rfl) (vr (.agg ([x.2,NI x.1.2]).toArray) rfl) bo rfl (show(Tryz.prog.info? 215).map (·.size)=some 2 from Bf) (Cn (RB.one (hxr.keep hE)).2) fun hp ds b5 hq=> ?_);have hme:=hme.keep bn;have hme:=MapF.other hme b5 (Am (by omega));have hmm:=hmm.keep bn;have hmm:=MapF.other hmm b5 (Am (by omega));clear bo;have bo:=ds;clear ds;have hr:=bl bo;have bk:=bk.trans bn;have bk:=Ab bk b5 (AaV (AaX _) (by omega));have g:=eb (dn.trans bk) g;have hE:=Ab hE b5 (AaV et (by omega));refine cT rfl (gS (XO rfl bo (Dm).choose_spec rfl (show(Tryz.prog.info? 215).map (·.size)=some 2 from Bf) (gS (XN (vr (PQ am 0) rfl) (vr (.agg ([x.2,NI x.1.2]).toArray) rfl) g rfl (show(Tryz.prog.info? 215).map (·.size)=some 2 from Bf) (Cn (RB.one (hxr.keep hE)).2) fun hs dt cg ht=> ?_))));have hme:=MapF.other hme cg (Am (by omega));have hmm:=MapF.other hmm cg (Am (by omega));clear g;have g:=dt;clear dt;have hu:=bl g;refine Lx rfl (ResF.row rfl g (Dm).choose_spec rfl ((show(Tryz.prog.info? 215).map (·.size)=some 2 from Bf))) ?_;have hE:=Ab hE cg (AaV dw (by omega));exact .inl ⟨_,rfl,_,_,_,H,rfl,dl,(hxr.keep hE),hmm,(hHO.keep hE),(hX.keep hE),hnx,hNH⟩

theorem RZ(gm be bm:Nat)(M:Bs→Option Ag):∀(d:Nat) (w:AaS) (H:Bs→Option Cp) (id:Bs) (hmk:w.heap[gm]? =some (.cells ([.map (some be), .map (some bm)]).toArray 212 (0,0))) (hme:MapF rk BA (fun id:List UInt8=>id.length=32) w be M) (hmm:MapF rk Ch (fun id:List UInt8=>id.length=32) w bm H) (hMO:MOk w M) (hHO:HOk w M H) (hne:be≠bm) (hid:id.length=32) (hd50:d≤50) (a:Nat) (hdp:A6 (AD M) a (AD M id)=some d) (n0w:Nat) (hNM:NewM n0w M) (hNH:NewM n0w H) (c:n0w≤w.heap.size),Calls AaU 134 #[PQ gm 0,AB id] w fun r w' =>(∃x,r = .returned x∧∃v b k H',x = .agg ([v,NI k]).toArray∧BL (AD M) (d+1) id=some (b,k)∧RB w' v b∧MapF rk Ch (fun id:List UInt8=>id.length=32) w' bm H' ∧HOk w' M H' ∧BX w.heap.size (some bm) w w' ∧NewV n0w v∧NewM n0w H')∨∃ch,r = .panicked ch∧BL (AD M) (d+1) id=none∧ch= [CO 6]∧BX w.heap.size (some bm) w w' :=by
 intro d
 induction d using Adr with
 | _ d ih=>exact Qc gm be bm M d ih
def OOk(w:AaS)(O:Bs→Option Cp):Prop:=∀id x,O id=some x→RB w x.2 x.1.1
theorem OOk.keep{w w' :AaS}{O:Bs→Option Cp}(h:OOk w O)(k:Ext w w'):OOk w' O:=fun a c hc=>(h a c hc).keep k
theorem OOk.keepN{w w' :AaS}{b:Nat}{O:Bs→Option Cp}(h:OOk w O)(hm:D7 w b)(hg:w.grownBy w' (some b)):OOk w' O:=fun a c hc=>(h a c hc).keepN hm hg
theorem OOk.nil(w:AaS):OOk w (fun _=>none):=fun _ _ h=>by cases h
theorem OOk.put{w:AaS}{O:Bs→Option Cp}(h:OOk w O){id:Bs}{x:Cp}(h1:RB w x.2 x.1.1):OOk w (updM O id (some x)):=fun a c hc=>by
  unfold updM at hc;split at hc
  · cases hc;exact h1
  · exact h a c hc
theorem entOne_len{b:Bs}{fin pos:Nat}{e:Ent}{n:Nat}(h:entOne b fin pos=some (e,n))(hf:fin≤b.length):e.bytes.length≤b.length:=by
  unfold entOne at h;split at h
  · split at h
    · split at h
      · cases h
      · cases ht:BV b (pos+33) fin with
        | none=>rw[ht]at h;cases h
        | some x=>rw[ht]at h;cases h;exact Gw (s:=x.1) (n:=x.2) ht hf
    · cases ht:BV b (pos+1) fin with
      | none=>rw[ht]at h;cases h
      | some x=>rw[ht]at h;cases h;exact Gw (s:=x.1) (n:=x.2) ht hf
  · cases h
theorem LK{b:Bs}{fin first:Nat}(hf:fin≤b.length):∀(n:Nat) (es:List Ent) (p:Nat),C9 b fin first n=some (es,p)→es.length=n∧∀x∈es,x.bytes.length≤b.length
  | 0,es,p,h=>by cases h;exact⟨rfl,fun x hx=>by cases hx⟩
  | n+1,es,p,h=>by
    cases h1:C9 b fin first n with
    | none=>rw[DE h1 1]at h;cases h
    | some x=>
      rw[Hs (es:=x.1) (p:=x.2) h1]at h;have ih:=LK hf n x.1 x.2 h1;cases h2:entOne b fin x.2 with
      | none=>rw[h2]at h;cases h
      | some y=>
        rw[h2]at h;cases h;refine⟨by rw[AaY,ih.1];rfl,fun z hz=> ?_⟩;rcases Abk.1 hz with hz | hz
        · exact ih.2 z hz
        · rw[Aa6.1 hz];exact entOne_len (e:=y.1) (n:=y.2) h2 hf
theorem Iw{b:Bs}{n first fin:Nat}{es:List Ent}(h:Ct b n first fin=some es)(hf:fin≤b.length):es.length=n∧∀x∈es,x.bytes.length≤b.length:=by
  unfold Ct at h;cases h1:C9 b fin first n with
  | none=>rw[h1]at h;cases h
  | some x=>
    rw[h1]at h;have h2:(if x.2=fin then some x.1 else none)=some es:=h;split at h2
    · cases h2;exact LK hf n x.1 x.2 h1
    · cases h2
def IxS.plain(s:IxS Ag):IxS Ent:=⟨s.ids,fun k=>(s.G k).map Abq,fun k=>(s.M k).map Abq⟩
theorem Hx{α β γ:Type}[DecidableEq α](G:α→Option β)(a:α)(y:Option β)(f:β→γ):(fun k=>(updM G a y k).map f)=updM (fun k=>(G k).map f) a (y.map f):=by
  funext k
  unfold updM;split <;> rfl
theorem placeGo_map(es:List Ag):∀i,(fun k=>(DO (fun x:Ag=>x.1.pos) dEnt es i k).map Abq)=DO Ent.pos dEnt.1 (es.map Abq) i
  | 0=>rfl
  | i+1=>by
    unfold DO;rw[Hx,placeGo_map es i];have e:(es.map Abq).getD i dEnt.1=(es.getD i dEnt).1:=by
      rw[AaW,AaW,AcB];cases es[i]? <;> rfl
    rw[e];rfl
theorem FS(t:Bs)(es:List Ag):∀i,DA Ent.pos dEnt.1 t (es.map Abq) i=(DA (fun x:Ag=>x.1.pos) dEnt t es i).map IxS.plain
  | 0=>by
    unfold DA;rw[Abh,←placeGo_map];rfl
  | i+1=>by
    cases h:DA (fun x:Ag=>x.1.pos) dEnt t es i with
    | none=>
      have h' :DA Ent.pos dEnt.1 t (es.map Abq) i=none:=by rw[FS t es i,h];rfl
      rw[EL h 1,EL h' 1];rfl
    | some s=>
      have h' :DA Ent.pos dEnt.1 t (es.map Abq) i=some s.plain:=by rw[FS t es i,h];rfl
      rw[Fv h,Fv h'];cases hG:s.G (EE t i)with
      | none=>
        have hG' :s.plain.G (EE t i)=none:=by show(s.G (EE t i)).map Abq=none;rw[hG];rfl
        unfold Dl;rw[hG,hG'];rfl
      | some c=>
        have hG' :s.plain.G (EE t i)=some c.1:=by show(s.G (EE t i)).map Abq=some c.1;rw[hG];rfl
        unfold Dl;rw[hG,hG'];by_cases hc:i=0∨Abl (s.ids.getD (i-1) []) (BP t i)<0
        · simp only[if_pos hc,if_pos (show i=0∨Abl (s.plain.ids.getD (i-1) []) (BP t i)<0 from hc)];show some (DK Ent.pos t i s.plain c.1)=some (DK _ t i s c).plain;unfold DK IxS.plain
          dsimp only
          rw[Hx,Hx];rfl
        · simp only[if_neg hc,if_neg (show ¬(i=0∨Abl (s.plain.ids.getD (i-1) []) (BP t i)<0)from hc)];rfl
def Ky(M:Bs→Option Ent)(k:Bs):Ent:=(M k).getD dEnt.1
theorem Jm(s:IxS Ag):AD s.M=Ky s.plain.M:=by
  funext k
  show((s.M k).getD dEnt).1=((s.M k).map Abq).getD dEnt.1;cases s.M k <;> rfl
structure HX where
  total:Nat
  O:Bs→Option (Bs × Nat)
def Db(E:Bs→Ent)(id:Bs)(s:HX):Except Nat HX:=
  match A6 E 50 (E id)with
  | none=> .error 17
  | some d=>match BL E (d+1) id with
    | none=> .error 6
    | some x=>if Sha.sum x.1=id then(if s.total+x.1.length≤4194304 then .ok ⟨s.total+x.1.length,updM s.O id (some (x.1,d))⟩else .error 2)else .error 18
def Dx(E:Bs→Ent)(ids:List Bs):Nat→Except Nat HX
  | 0=> .ok ⟨0,fun _=>none⟩
  | i+1=>match Dx E ids i with
    | .error e=> .error e
    | .ok s=>Db E (ids.getD i []) s
theorem Kz{E:Bs→Ent}{id:Bs}{s:HX}(h:A6 E 50 (E id)=none):Db E id s = .error 17:=by unfold Db;rw[h]
theorem LL{E:Bs→Ent}{id:Bs}{s:HX}{d:Nat}(h:A6 E 50 (E id)=some d)(h2:BL E (d+1) id=none):Db E id s = .error 6:=by
  unfold Db;rw[h]
  dsimp only
  rw[h2]
theorem EX{E:Bs→Ent}{id:Bs}{s:HX}{d:Nat}{b:Bs}{k:Nat}(h:A6 E 50 (E id)=some d)(h2:BL E (d+1) id=some (b,k)):Db E id s=if Sha.sum b=id then(if s.total+b.length≤4194304 then .ok ⟨s.total+b.length,updM s.O id (some (b,d))⟩else .error 2)else .error 18:=by
  unfold Db;rw[h]
  dsimp only
  rw[h2]
theorem EY{E:Bs→Ent}{ids:List Bs}{i:Nat}{s:HX}(h:Dx E ids i = .ok s):Dx E ids (i+1)=Db E (ids.getD i []) s:=by
  show(match Dx E ids i with | .error e=>_ | .ok s=>_)=_;rw[h]
theorem Gx{E:Bs→Ent}{ids:List Bs}{i:Nat}{e:Nat}(h:Dx E ids i = .error e):∀k,Dx E ids (i+k) = .error e
  | 0=>h
  | k+1=>by
    show(match Dx E ids (i+k)with | .error e=>_ | .ok s=>_)=_;rw[Gx h k]
abbrev AZ:=List Bs ×(Bs→Option (Bs × Nat))
def Gy(E:Bs→Ent)(ids:List Bs):Except Nat AZ:=
  match Dx E ids ids.length with
  | .error e=> .error e
  | .ok o=> .ok (ids,o.O)
theorem Nq{E:Bs→Ent}{ids:List Bs}{o:HX}(h:Dx E ids ids.length = .ok o):Gy E ids = .ok (ids,o.O):=by unfold Gy;rw[h]
def KA(es:List Ent)(M:Bs→Option Ent):Bool:=es.all fun e=> !e.based||(M e.base).isSome
def Tp(b:Bs)(f:Nat)(ids:List Bs):Bool:=(Ab6 256).all fun i=>DX (b.drop (f+4*i))==(A8 ids).getD i 0
def G5(b:Bs)(f:Nat)(es:List Ent)(s:IxS Ent):Except Nat AZ:=if Tp b f s.ids=true then(if KA es s.M=true then Gy (Ky s.M) s.ids else .error 6)else .error 6
def Gz(b:Bs)(f:Nat)(es:List Ent):Except Nat AZ:=
  match DA Ent.pos dEnt.1 ((b.drop (f+1024)).take (b.length-36-(f+1024))) es es.length with
  | none=> .error 6
  | some s=>G5 b f es s
def Hy(b:Bs)(n first f:Nat):Except Nat AZ:=
  match Ct b n first f with
  | none=> .error 6
  | some es=>Gz b f es
def I2(b:Bs)(f n first:Nat):Except Nat AZ:=
  if b.getD 0 0=80∧first≤f∧f≤b.length-36∧n≤b.length-36 then(if b.length-36-f=1024+36*n then Hy b n first f else .error 6)else .error 6
def Cu(b:Bs):Except Nat AZ:=
  match A1 0 (b.drop 1)with
  | none=> .error 6
  | some x=>I2 b (DX (b.drop (b.length-36))) x.1 (1+x.2)
theorem Vm{b:Bs}{f:Nat}{ids:List Bs}(h:Tp b f ids=true){i:Nat}(hi:i<256):DX (b.drop (f+4*i))=(A8 ids).getD i 0:=by
  have:=AbE.1 h i (by simpa using hi);exact beq_iff_eq.1 this
theorem fanB_of{b:Bs}{f:Nat}{ids:List Bs}(h:∀i,i<256→DX (b.drop (f+4*i))=(A8 ids).getD i 0):Tp b f ids=true:=
  AbE.2 fun i hi=>by rw[beq_iff_eq];exact h i (by simpa using hi)
theorem R1{es:List Ag}{M:Bs→Option Ag}(h:KA (es.map Abq) (fun k=>(M k).map Abq)=true){q:Nat}(hq:q<es.length):(es.getD q dEnt).1.based=true→M (es.getD q dEnt).1.base≠none:=fun hb hn=>by
  have h1:=AbE.1 h (es.getD q dEnt).1 (AbD.2 ⟨_,AO dEnt hq,rfl⟩)
  dsimp only at h1
  rw[hb,hn]at h1;cases h1
theorem R2{es:List Ag}{M:Bs→Option Ag}(h:∀q,q<es.length→(es.getD q dEnt).1.based=true→M (es.getD q dEnt).1.base≠none):KA (es.map Abq) (fun k=>(M k).map Abq)=true:=
  AbE.2 fun e he=>by
    obtain⟨x,hx,rfl⟩:=AbD.1 he;obtain⟨q,hq,rfl⟩:=Aco hx;have h1:=h q hq;rw[show es.getD q dEnt=es[q] by rw[AaW,Aa2 hq];rfl]at h1;cases hb:(es[q]).1.based with
    | false=>rfl
    | true=>
      cases hm:M (es[q]).1.base with
      | none=>exact absurd hm (h1 hb)
      | some c=>dsimp only;rw[hm];rfl
theorem KB{E:Bs→Ent}:∀ {n:Nat} {e:Ent} {d:Nat},A6 E n e=some d→d≤n
  | 0,e,d,h=>by
    cases hb:e.based with
    | false=>rw[D6 hb]at h;cases h;exact AaX _
    | true=>rw[EW hb]at h;cases h
  | n+1,e,d,h=>by
    cases hb:e.based with
    | false=>rw[D6 hb]at h;cases h;exact Abs _
    | true=>
      rw[DB hb]at h;cases h1:A6 E n (E e.base)with
      | none=>rw[h1]at h;cases h
      | some d1=>rw[h1]at h;cases h;exact Nat.succ_le_succ (KB h1)
theorem AaO{w:AaS}{t:Bs}{es:List Ag}{s:IxS Ag}{i n:Nat}(h:EntsOk w es)(hI:WB t es i s)(hb:∀x∈es.map Abq,x.bytes.length≤n)(hn:n≤1048576):MOk w s.M:=fun k c hc=>
  have hm:=hI.M k c hc
  ⟨(h c hm).1,(h c hm).2,AaV (hb c.1 (AbD.2 ⟨c,hm,rfl⟩)) hn⟩
theorem Qd:Plain AaU 130:=fun _ _=>by kernel_rfl
theorem Qe:Plain AaU 131:=fun _ _=>by kernel_rfl
theorem KC(z0:Nat)(z1:Nat)(w:AaS):(AcJ 212 #[(0, .map (some z0)),(1, .map (some z1))]).run AaU w = .ok (.agg ([.map (some z0), .map (some z1)]:List AaR).toArray) w:=by kernel_rfl
theorem KD{z0:AaR}(h0:∃ao n c,z0 = .slice ao n c)(z1:Nat)(w:AaS):(AcJ 163 #[(0,z0),(1, .map (some z1))]).run AaU w = .ok (.agg ([z0, .map (some z1)]:List AaR).toArray) w:=by obtain⟨_,_,_,rfl⟩:=h0;kernel_rfl
theorem Qf:Plain AaU 133:=fun _ _=>by kernel_rfl
theorem R3:Tryz.prog.eqGuardType Tryz.prog.depth 33=false:=by kernel_rfl
theorem Nr:A2 AaU 163 1 1:=fun b o w=>by simp[go_sem]
theorem Tq(w:AaS)(hG:Laid w)(v:AaR)(b:Bs)(hr:RB w v b)(h36:36≤b.length)(hb:b.length≤1048576):
  Calls AaU 79 #[v] w fun r w' =>(∃x,r = .returned x∧∃g vi bo ids O,x=PQ g 0∧Cu b = .ok (ids,fun k=>(O k).map Abq)∧w'.heap[g]? =some (.cells ([vi, .map (some bo)]).toArray 163 (0,0))∧RG 32 AaT w' vi ids∧MapF rk Ch (fun id:List UInt8=>id.length=32) w' bo O∧OOk w' O∧w.heap.size≤g∧w.heap.size≤bo∧NewV w.heap.size vi∧NewM w.heap.size O∧Ext w w')∨∃ch,r = .panicked ch∧∃c,Cu b = .error c∧ch= [CO c]∧Ext w w' :=by
 obtain⟨f,hf⟩:∃f,f=DX (b.drop (b.length-36)):=⟨_,rfl⟩;refine gG (args:= [v]) Tryz.func79 rfl 168 rfl rfl ?_;have hE:=Ext.refl w;refine gS (XS F5 (XP (hr.keep hE) rfl) (gS (XL (xv:=NI b.length) (yv:=NI 36) rfl rfl rfl (BJ _ _ _ (by omega) (by omega)) (gS (Yg (xs:=b) (l:=(b.length)-(36)) F5 PG rfl (hr.keep hE) rfl (by omega) fun v4 ey ha6=>(gS (XQ FR rfl (((show Calls _ _ _ _ (fun e w2=>e = .returned (NI (f))∧Ext _ w2)from by rw[hf];exact DN _ v4 (b.drop ((b.length)-(36))) ey (by simp only[Abf];omega))).mono ?_))))))));rintro e w8 ⟨rfl,ba⟩;refine⟨_,rfl,?_⟩;rcases hd:A1 0 (b.drop 1)with _ | ⟨n,k⟩
 ·have hP:Cu b = .error 6:=by unfold Cu;rw[hd]
  by_cases h80:(b.getD 0 0).toNat=80
  ·have hE:=hE.trans ba;refine gS (XM CG rfl rfl (((show Calls _ _ _ _ (fun e w2=>e = .returned (.tuple #[NI 0,NI 0,NI 6])∧Ext _ w2)from(Ex _ v b (hr.keep hE) 1 (by omega)).mono fun e w2 ⟨h1,h2⟩=>by subst h2;subst h1;rw[hd];exact⟨rfl,Ext.refl _⟩)).mono ?_));rintro e hp ⟨rfl,ez⟩;refine⟨_,rfl,?_⟩;have hE:=hE.trans ez;refine gS (Yk.extract (vs:= [NI 0,NI 0,NI 6]) rfl rfl (gS (Yk.extract (vs:= [NI 0,NI 0,NI 6]) rfl rfl (gS (Yk.extract (vs:= [NI 0,NI 0,NI 6]) rfl rfl (gS (X7 (l:=b) (i:=0) F5 PG (XP (hr.keep hE) rfl) rfl (by omega) fun ht e0=>(gS (X0 u5 rfl (X6 e0 rfl) (gS (XK (a:=((b.getD (0) 0).toNat:Nat)) (b:=(80:Nat)) rfl rfl (AA _ _ _ _) (kT (h80) (gS (XK (a:=(6:Nat)) (b:=(0:Nat)) rfl rfl (AA _ _ _ _) (kF (by decide) (gS (XR rfl rfl (gS (XV rfl rfl (gS (XV rfl rfl (gS (XV rfl rfl (gP (XZ FP rfl rfl ?_)))))))))))))))))))))))));refine Ap (AS _ (false) 6) ?_ ?_;rotate_left
   ·rintro ch hu ⟨rfl,hb,hx⟩;refine As ?_;exact .inr ⟨_,rfl,6,hP,rfl,hE.trans hx⟩
   rintro v_ hv ⟨rfl,e1,hw⟩;cases e1
  have hE:=hE.trans ba;refine gS (XM CG rfl rfl (((show Calls _ _ _ _ (fun e w2=>e = .returned (.tuple #[NI 0,NI 0,NI 6])∧Ext _ w2)from(Ex _ v b (hr.keep hE) 1 (by omega)).mono fun e w2 ⟨h1,h2⟩=>by subst h2;subst h1;rw[hd];exact⟨rfl,Ext.refl _⟩)).mono ?_));rintro e hy ⟨rfl,e2⟩;refine⟨_,rfl,?_⟩;have hE:=hE.trans e2;refine gS (Yk.extract (vs:= [NI 0,NI 0,NI 6]) rfl rfl (gS (Yk.extract (vs:= [NI 0,NI 0,NI 6]) rfl rfl (gS (Yk.extract (vs:= [NI 0,NI 0,NI 6]) rfl rfl (gS (X7 (l:=b) (i:=0) F5 PG (XP (hr.keep hE) rfl) rfl (by omega) fun hz e3=>(gS (X0 u5 rfl (X6 e3 rfl) (gS (XK (a:=((b.getD (0) 0).toNat:Nat)) (b:=(80:Nat)) rfl rfl (AA _ _ _ _) (kF (h80) (gS (XV rfl rfl (gS (XV rfl rfl (gS (XV rfl rfl (gS (XV rfl rfl (gP (XZ FP rfl rfl ?_))))))))))))))))))))));refine Ap (AS _ (false) 6) ?_ ?_;rotate_left
  ·rintro ch h0 ⟨rfl,hb,hx⟩;refine As ?_;exact .inr ⟨_,rfl,6,hP,rfl,hE.trans hx⟩
  rintro v_ h3 ⟨rfl,e4,h4⟩;cases e4
 have hP0:Cu b=I2 b f n (1+k):=by unfold Cu;rw[hd];show I2 b (DX _) n (1+k)=_;rw[←hf]
 by_cases h80:(b.getD 0 0).toNat=80
 ·by_cases q1:1+k≤f
  ·by_cases q2:f≤b.length-36
   ·by_cases q3:n≤b.length-36
    ·have hA:b.getD 0 0=80∧1+k≤f∧f≤b.length-36∧n≤b.length-36:=⟨Aes.1 (by rw[h80];rfl),q1,q2,q3⟩;have hE:=hE.trans ba;refine gS (XM CG rfl rfl (((show Calls _ _ _ _ (fun e w2=>e = .returned (.tuple #[NI n,NI (1+k),NI 0])∧Ext _ w2)from(Ex _ v b (hr.keep hE) 1 (by omega)).mono fun e w2 ⟨h1,h2⟩=>by subst h2;subst h1;rw[hd];exact⟨rfl,Ext.refl _⟩)).mono ?_));rintro e h5 ⟨rfl,e5⟩;refine⟨_,rfl,?_⟩;have hE:=hE.trans e5;refine gS (Yk.extract (vs:= [NI n,NI (1+k),NI 0]) rfl rfl (gS (Yk.extract (vs:= [NI n,NI (1+k),NI 0]) rfl rfl (gS (Yk.extract (vs:= [NI n,NI (1+k),NI 0]) rfl rfl (gS (X7 (l:=b) (i:=0) F5 PG (XP (hr.keep hE) rfl) rfl (by omega) fun h6 c8=>(gS (X0 u5 rfl (X6 c8 rfl) (gS (XK (a:=((b.getD (0) 0).toNat:Nat)) (b:=(80:Nat)) rfl rfl (AA _ _ _ _) (kT (h80) (gS (XK (a:=(0:Nat)) (b:=(0:Nat)) rfl rfl (AA _ _ _ _) (kT (rfl) (gS (XR rfl rfl (gS (XK (a:=(f:Nat)) (b:=(1+k:Nat)) rfl rfl (EQ _ _ _ _) (kT (q1) (gS (XR rfl rfl (gS (XK (a:=(f:Nat)) (b:=((b.length)-(36):Nat)) rfl rfl (Dw _ _ _ _) (kT (q2) (gS (XR rfl rfl (gS (XK (a:=(n:Nat)) (b:=((b.length)-(36):Nat)) rfl rfl (Dw _ _ _ _) (kT (q3) (gS (XR rfl rfl (gP (XZ FP rfl rfl ?_))))))))))))))))))))))))))))))))));refine Ap (AS _ (true) 6) ?_ ?_;rotate_left
     ·rintro ch h7 ⟨rfl,hb,hx⟩;refine As ?_;cases hb
     rintro v_ h8 ⟨rfl,h9,c9⟩;clear c8;refine gS (XL (xv:=NI ((b.length)-(36))) (yv:=NI f) rfl rfl rfl (BJ _ _ _ (by omega) (by omega)) (gS (XL (xv:=NI 36) (yv:=NI n) rfl rfl rfl (Ci _ _ _ (by omega)) (gS (XL (xv:=NI 1024) (yv:=NI ((36)*(n))) rfl rfl rfl (Ai _ _ _ (by omega)) (gS (XK (a:=(((b.length)-(36))-(f):Nat)) (b:=((1024)+((36)*(n)):Nat)) rfl rfl (AA _ _ _ _) (gP (XZ FP rfl rfl ?_)))))))));refine Ap (AS _ (decide ((((b.length)-(36))-(f):Nat)=((1024)+((36)*(n))))) 6) ?_ ?_;rotate_left
     ·rintro ch ia ⟨rfl,hb,hx⟩;refine As ?_;have hno:=of_decide_eq_false hb;have hE:=hE.trans c9;exact .inr ⟨_,rfl,6,hP0.trans ((if_pos hA).trans (if_neg hno)),rfl,hE.trans hx⟩
     rintro v_ ib ⟨rfl,e6,e7⟩;have e8:=of_decide_eq_true e6;have hq5:=e8;have hP1:Cu b=Hy b n (1+k) f:=hP0.trans ((if_pos hA).trans (if_pos hq5));have hE:=hE.trans (c9.trans e7);refine gP (Aai Qd rfl rfl rfl rfl ?_);refine Ap (Ov _ v b (hr.keep hE) n (1+k) f (by omega) (by omega) (by omega) (by omega)) ?_ ?_;rotate_left
     ·rintro ch ic ⟨hno,rfl,hx⟩;refine As ?_;exact .inr ⟨_,rfl,6,hP1.trans (by unfold Hy;rw[hno]),rfl,hE.trans hx⟩
     rintro bq br ⟨es,hes,au,hok52,e9,fa⟩;have hnwE:∀x∈es,NewV w.heap.size x.2:=fun x hx k hk=>AaV (hE).size (e9 x hx k hk);have hok:=hok52;have hel:=Iw hes (by omega);rw[Abh]at hel;have heln:=hel.1;have hP2:Cu b=Gz b f (es.map Abq):=hP1.trans (by unfold Hy;rw[hes]);have hE:=hE.trans fa;refine gS (XL (xv:=NI f) (yv:=NI 1024) rfl rfl rfl (Ai _ _ _ (by omega)) (gS (YI (xs:=b) (l:=(f)+(1024)) (n:=(b.length)-(36)) F5 PG rfl (hr.keep hE) rfl rfl (by omega) (by omega) fun fb fc ha60=>(gP (XZ Qe rfl rfl ?_)))));refine Ap (P7 _ fb ((b.drop (f+1024)).take (b.length-36-(f+1024))) fc bq es au hok (by rw[Abg,Abf];omega) (by omega)) ?_ ?_;rotate_left
     ·rintro ch ie ⟨hno,rfl,hx⟩;refine As ?_;exact .inr ⟨_,rfl,6,hP2.trans (by unfold Gz;rw[Abh,FS,hno];rfl),rfl,hE.trans hx⟩
     rintro v_ bc ⟨s,ah,ab,his,rfl,bd,hm64,hNv0,da⟩;have hNvi:NewV w.heap.size ah:=fun k hk=>AaV (hE).size (hNv0 k hk);have p:=Ext.refl br;have ig:=hE.size;have hI:=I1 _ _ his;have hNM:NewM w.heap.size s.M:=fun id c hc=>hnwE c (hI.M id c hc);have p:=p.trans da;have hMO:MOk bc s.M:=AaO (hok.keep p) hI hel.2 (by omega);have t:=Ext.refl bc;have hE:=hE.trans da;have ih:=hE.size;have ii:=p.size;have hIl:=hI.len;have hlbe:=hm64.lt;have hP3:Cu b=G5 b f (es.map Abq) s.plain:=hP2.trans (by unfold Gz;rw[Abh,FS,his];rfl);refine gS (Yk.extract (vs:= [ah, .map (some ab)]) rfl rfl (gS (Yk.extract (vs:= [ah, .map (some ab)]) rfl rfl (gS (XQ RV rfl ((O0 _ ah s.ids (bd.keep t)).mono ?_))))));rintro e ij ⟨rfl,b8⟩;refine⟨_,rfl,?_⟩;have hE:=hE.trans b8;have p:=p.trans b8;have hm64:=hm64.keep b8;have t:=t.trans b8;refine gL (fun(ρ:Ad) (wz:AaS)=>∃m:Nat,ρ 0=(v:AaR)∧ρ 2=(.pointer none:AaR)∧ρ 3=(NI ((b.length)-(36)):AaR)∧ρ 4=(NI f:AaR)∧ρ 5=(NI n:AaR)∧ρ 6=(NI (1+k):AaR)∧ρ 7=(NI 0:AaR)∧ρ 8=(bq:AaR)∧ρ 9=(ah:AaR)∧ρ 10=(.map (some ab):AaR)∧ρ 85=(.agg ((A8 (s.ids)).map fun x=>NI x).toArray:AaR)∧ρ 86=(NI m:AaR)∧Ext w wz∧Ext br wz∧MapF rk BA (fun id:List UInt8=>id.length=32) wz ab s.M∧Ext bc wz∧(m≤256)∧(∀j,j<m→DX (b.drop (f+4*j))=(A8 s.ids).getD j 0)∧True) (fun ρ _=>256-(intOf (ρ 86)).toNat) ⟨0,rfl,rfl,rfl,rfl,rfl,rfl,rfl,rfl,rfl,rfl,rfl,rfl,hE,p,hm64,t,Abs _,fun j hj=>absurd hj (Acx _),trivial⟩ ?_;clear hE hm64;rintro fd ik ⟨m,T0,T2,T3,T4,T5,T6,T7,T8,T9,af,ax,ai,hE,p,hm64,t,hm,hfan,-⟩;have q86:=ai;refine gS (XK (a:=(m:Nat)) (b:=(256:Nat)) ai rfl (AL _ _ _ _) ?_);refine cD rfl (fun fe=> ?_) fun fe=> ?_
     ·refine gS (ZP (l:=A8 (s.ids)) (i:=m) DY Tc rfl G1 ax ai (by omega) (by rw[BQ]) (gS (XL (xv:=NI 4) (yv:=NI m) rfl ai rfl (Ci _ _ _ (by omega)) (gS (XL (xv:=NI f) (yv:=NI ((4)*(m))) T4 rfl rfl (Ai _ _ _ (by omega)) (gS (Yg (xs:=b) (l:=(f)+((4)*(m))) F5 PG T0 (hr.keep hE) rfl (by omega) fun ff fg ha89=>(gS (XQ FR rfl (((show Calls _ _ _ _ (fun e w2=>e = .returned (NI (DX (b.drop (f+4*m))))∧Ext _ w2)from by skip;exact DN _ ff (b.drop ((f)+((4)*(m)))) fg (by simp only[Abf];omega))).mono ?_))))))))));rintro e il ⟨rfl,db⟩;refine⟨_,rfl,?_⟩;refine gS (XK (a:=(DX (b.drop (f+4*m)):Nat)) (b:=((A8 (s.ids)).getD (m) 0:Nat)) rfl rfl (AA _ _ _ _) (gP (XZ FP rfl rfl ?_)));refine Ap (AS _ (decide ((DX (b.drop (f+4*m)):Nat)=((A8 (s.ids)).getD (m) 0))) 6) ?_ ?_;rotate_left
      ·rintro ch im ⟨rfl,hb,hx⟩;refine As ?_;have hno:=of_decide_eq_false hb;have hE:=hE.trans db;exact .inr ⟨_,rfl,6,hP3.trans (if_neg (fun h=>hno (Vm h (by omega)))),rfl,hE.trans hx⟩
      rintro v_ io ⟨rfl,fh,fi⟩;have fj:=of_decide_eq_true fh;have hZ1:=db.trans fi;have hE:=hE.trans hZ1;have p:=p.trans hZ1;have hm64:=hm64.keep hZ1;have t:=t.trans hZ1;refine gS (XL (xv:=NI m) (yv:=NI 1) ai rfl rfl (Ai _ _ _ (by omega)) (gK (Aby ⟨m+1,T0,T2,T3,T4,T5,T6,T7,T8,T9,af,ax,rfl,hE,p,hm64,t,by omega,fun j hj=>by by_cases e:j=m;subst e;exact fj;exact hfan j (by omega),trivial⟩ ?_)));show 256-(intOf (NI ((m)+(1)))).toNat<256-(intOf (fd 86)).toNat;rw[q86];simp only[intOf,Aba];omega
     have hfb:=fanB_of (fun j hj=>hfan j (by omega));have hP4:Cu b=(if KA (es.map Abq) s.plain.M=true then Gy (Ky s.plain.M) s.plain.ids else .error 6):=hP3.trans (if_pos hfb);refine gS (X1 FQ (XU (au.keep p) T8) (gL (fun(ρ:Ad) (wz:AaS)=>∃q:Nat,ρ 0=(v:AaR)∧ρ 2=(.pointer none:AaR)∧ρ 3=(NI ((b.length)-(36)):AaR)∧ρ 4=(NI f:AaR)∧ρ 5=(NI n:AaR)∧ρ 6=(NI (1+k):AaR)∧ρ 7=(NI 0:AaR)∧ρ 8=(bq:AaR)∧ρ 9=(ah:AaR)∧ρ 10=(.map (some ab):AaR)∧ρ 85=(.agg ((A8 (s.ids)).map fun x=>NI x).toArray:AaR)∧ρ 86=(NI m:AaR)∧ρ 101=(bq:AaR)∧ρ 102=(NI es.length:AaR)∧ρ 103=(NI q:AaR)∧Ext w wz∧Ext br wz∧MapF rk BA (fun id:List UInt8=>id.length=32) wz ab s.M∧Ext bc wz∧(q≤es.length)∧(∀j,j<q→(es.getD j dEnt).1.based=true→s.M (es.getD j dEnt).1.base≠none)∧True) (fun ρ _=>es.length-(intOf (ρ 103)).toNat) ⟨0,T0,T2,T3,T4,T5,T6,T7,T8,T9,af,ax,ai,T8,rfl,rfl,hE,p,hm64,t,Abs _,fun j hj=>absurd hj (Acx _),trivial⟩ ?_));clear hE p hm64 t;rintro cw b9 ⟨q,T0,T2,T3,T4,T5,T6,T7,T8,T9,af,ax,ai,ay,be,am,hE,p,hm64,t,hq,hbs,-⟩;have q103:=am;refine gS (XK (a:=(q:Nat)) (b:=(es.length:Nat)) am be (AL _ _ _ _) ?_);refine cD rfl (fun dc=> ?_) fun dc=> ?_
     ·have hc2_:q<es.length:=dc;have hcl:=hok _ (AO dEnt (l:=es) (i:=q) hc2_);rcases hl:s.M (es.getD (q) dEnt).1.base with _ | c
      ·rcases hbx:(es.getD (q) dEnt).1.based with _ | _
       ·have fk:(entC (es.getD (q) dEnt)).length=35:=(RG.elem (au.keep p) dEnt (by omega));refine gS (X4 FQ Ow (by decide) dEnt (XU (au.keep p) ay) am (by omega) fun ip de=>(gS (X9 (Yb de rfl) (Ku).choose_spec rfl (by rw[fk];exact Ey) (gS (Yk.alloc Hv fun df fl fm dh di iq=> ?_)))));have bf:=Ext.refl b9;have ir:=hE.size;have iu:=p.size;have iv:=t.size;have iw:=Ar hm64.lt fm;have a5:=dh;clear dh;have ix:df<fl.heap.size:=by omega
        refine gS (XN (vr (PQ df 0) rfl) (vr (.agg (entC (es.getD (q) dEnt)).toArray) rfl) a5 (Bo (x:=((es.getD (q) dEnt):Ag)) (y:=(dEnt:Ag)) hcl.2 (by simp[dEnt])) (Bc (x:=((es.getD (q) dEnt):Ag)) Ey hcl.2) (Bw (x:=((es.getD (q) dEnt):Ag)) (RB.one hcl.1).2) fun fn dj dk iy=> ?_);have hm64:=hm64.keep di;have hm64:=MapF.other hm64 dk (Am (by omega));clear a5;have a5:=dj;clear dj;have iz:=bl a5;clear de;refine gS (Yk.fieldAt Nk rfl (gS (Yf rfl (El (x:=((es.getD (q) dEnt):Ag)) a5) UY rfl (by rw[Aa8,hcl.2];exact Rb) (gS (Yw (ek:=rk) (ev:=BA) (D:=(fun id:List UInt8=>id.length=32)) Ce Cf (fun _ _=>B9) Kw (z:=BA dEnt) Da af rfl hm64 hcl.2 hl (gS (Yk.extract (vs:= [.agg (entC (dEnt)).toArray, .bool (false)]) rfl rfl (gS (Yk.extract (vs:= [.agg (entC (dEnt)).toArray, .bool (false)]) rfl rfl (gS (Yk.alloc Hv fun dl fo fp dm bu i0=> ?_)))))))))));have bv:=Ext.refl fn;have bf:=bf.trans di;have bf:=Ab bf dk (AaV (AaX _) (by omega));have hE:=hE.trans bf;have p:=p.trans bf;have t:=t.trans bf;have fq:=hE.size;have fr:=p.size;have fs:=t.size;have i1:=Ar hm64.lt fp;have ca:=dm;clear dm;have i2:dl<fo.heap.size:=by omega
        refine gS (XN (vr (PQ dl 0) rfl) (vr (.agg (entC (dEnt)).toArray) rfl) ca (Bo (x:=((dEnt):Ag)) (y:=(dEnt:Ag)) (by simp[dEnt]) (by simp[dEnt])) (Bc (x:=((dEnt):Ag)) Ey (by simp[dEnt])) (Bw (x:=((dEnt):Ag)) rfl) fun i3 dn bw i4=> ?_);have hm64:=hm64.keep bu;have hm64:=MapF.other hm64 bw (Am (by omega));clear ca;have ca:=dn;clear dn;have i5:=bl ca;have bv:=bv.trans bu;have bv:=Ab bv bw (AaV (AaX _) (by omega));have a5:=eb bv a5;refine gS (Yk.fieldAt F9 rfl (gS (XJ JI rfl rfl (cellAt a5 ((show(entC ((es.getD (q) dEnt)))[1]? =some (.bool false:AaR)from congrArg (fun b=>some (AbA b)) hbx))) (gS (Ym rfl (gS (XR rfl rfl (gP (XZ FP rfl rfl ?_)))))))));refine Ap (AS _ (true) 6) ?_ ?_;rotate_left
        ·rintro ch i6 ⟨rfl,hb,hx⟩;refine As ?_;cases hb
        rintro v_ i7 ⟨rfl,i8,cb⟩;have hE:=hE.trans bu;have hE:=Ab hE bw (AaV fq (by omega));have hE:=hE.trans cb;have p:=p.trans bu;have p:=Ab p bw (AaV fr (by omega));have p:=p.trans cb;have t:=t.trans bu;have t:=Ab t bw (AaV fs (by omega));have t:=t.trans cb;have hm64:=hm64.keep cb;refine gS (XL (xv:=NI q) (yv:=NI 1) am rfl rfl (Ai _ _ _ (by omega)) (gK (Aby ⟨q+1,T0,T2,T3,T4,T5,T6,T7,T8,T9,af,ax,ai,ay,be,rfl,hE,p,hm64,t,by omega,fun j hj=>by by_cases e:j=q;subst e;exact(fun hbt=>by rw[hbx]at hbt;cases hbt);exact hbs j (by omega),trivial⟩ ?_)));show es.length-(intOf (NI ((q)+(1)))).toNat<es.length-(intOf (cw 103)).toNat;rw[q103];simp only[intOf,Aba];omega
       have ft:(entC (es.getD (q) dEnt)).length=35:=(RG.elem (au.keep p) dEnt (by omega));refine gS (X4 FQ Ow (by decide) dEnt (XU (au.keep p) ay) am (by omega) fun i9 dp=>(gS (X9 (Yb dp rfl) (Ku).choose_spec rfl (by rw[ft];exact Ey) (gS (Yk.alloc Hv fun dq fu fv dr ds ja=> ?_)))));have bg:=Ext.refl b9;have jb:=hE.size;have jc:=p.size;have jd:=t.size;have je:=Ar hm64.lt fv;have a6:=dr;clear dr;have jf:dq<fu.heap.size:=by omega
       refine gS (XN (vr (PQ dq 0) rfl) (vr (.agg (entC (es.getD (q) dEnt)).toArray) rfl) a6 (Bo (x:=((es.getD (q) dEnt):Ag)) (y:=(dEnt:Ag)) hcl.2 (by simp[dEnt])) (Bc (x:=((es.getD (q) dEnt):Ag)) Ey hcl.2) (Bw (x:=((es.getD (q) dEnt):Ag)) (RB.one hcl.1).2) fun fw dt du jg=> ?_);have hm64:=hm64.keep ds;have hm64:=MapF.other hm64 du (Am (by omega));clear a6;have a6:=dt;clear dt;have jh:=bl a6;clear dp;refine gS (Yk.fieldAt Nk rfl (gS (Yf rfl (El (x:=((es.getD (q) dEnt):Ag)) a6) UY rfl (by rw[Aa8,hcl.2];exact Rb) (gS (Yw (ek:=rk) (ev:=BA) (D:=(fun id:List UInt8=>id.length=32)) Ce Cf (fun _ _=>B9) Kw (z:=BA dEnt) Da af rfl hm64 hcl.2 hl (gS (Yk.extract (vs:= [.agg (entC (dEnt)).toArray, .bool (false)]) rfl rfl (gS (Yk.extract (vs:= [.agg (entC (dEnt)).toArray, .bool (false)]) rfl rfl (gS (Yk.alloc Hv fun dv fx fy dw cx ji=> ?_)))))))))));have bx:=Ext.refl fw;have bg:=bg.trans ds;have bg:=Ab bg du (AaV (AaX _) (by omega));have hE:=hE.trans bg;have p:=p.trans bg;have t:=t.trans bg;have fz:=hE.size;have jj:=p.size;have jk:=t.size;have jl:=Ar hm64.lt fy;have cc:=dw;clear dw;have jm:dv<fx.heap.size:=by omega
       refine gS (XN (vr (PQ dv 0) rfl) (vr (.agg (entC (dEnt)).toArray) rfl) cc (Bo (x:=((dEnt):Ag)) (y:=(dEnt:Ag)) (by simp[dEnt]) (by simp[dEnt])) (Bc (x:=((dEnt):Ag)) Ey (by simp[dEnt])) (Bw (x:=((dEnt):Ag)) rfl) fun jn dx cy jo=> ?_);have hm64:=hm64.keep cx;have hm64:=MapF.other hm64 cy (Am (by omega));clear cc;have cc:=dx;clear dx;have jp:=bl cc;have bx:=bx.trans cx;have bx:=Ab bx cy (AaV (AaX _) (by omega));have a6:=eb bx a6;refine gS (Yk.fieldAt F9 rfl (gS (XJ JI rfl rfl (cellAt a6 ((show(entC ((es.getD (q) dEnt)))[1]? =some (.bool true:AaR)from congrArg (fun b=>some (AbA b)) hbx))) (gS (Ym rfl (gS (XV rfl rfl (gP (XZ FP rfl rfl ?_)))))))));refine Ap (AS _ (false) 6) ?_ ?_;rotate_left
       ·rintro ch jq ⟨rfl,hb,hx⟩;refine As ?_;have hE:=hE.trans cx;have hE:=Ab hE cy (AaV fz (by omega));exact .inr ⟨_,rfl,6,hP4.trans (if_neg (fun h=>R1 h hc2_ hbx hl)),rfl,hE.trans hx⟩
       rintro v_ jr ⟨rfl,f0,js⟩;cases f0
      have hcx:=hMO _ c hl;rcases hbx:(es.getD (q) dEnt).1.based with _ | _
      ·have f1:(entC (es.getD (q) dEnt)).length=35:=(RG.elem (au.keep p) dEnt (by omega));refine gS (X4 FQ Ow (by decide) dEnt (XU (au.keep p) ay) am (by omega) fun jt dy=>(gS (X9 (Yb dy rfl) (Ku).choose_spec rfl (by rw[f1];exact Ey) (gS (Yk.alloc Hv fun dz f2 f3 d0 d1 ju=> ?_)))));have bh:=Ext.refl b9;have jv:=hE.size;have jw:=p.size;have jx:=t.size;have jy:=Ar hm64.lt f3;have a7:=d0;clear d0;have jz:dz<f2.heap.size:=by omega
       refine gS (XN (vr (PQ dz 0) rfl) (vr (.agg (entC (es.getD (q) dEnt)).toArray) rfl) a7 (Bo (x:=((es.getD (q) dEnt):Ag)) (y:=(dEnt:Ag)) hcl.2 (by simp[dEnt])) (Bc (x:=((es.getD (q) dEnt):Ag)) Ey hcl.2) (Bw (x:=((es.getD (q) dEnt):Ag)) (RB.one hcl.1).2) fun f4 d2 d3 j0=> ?_);have hm64:=hm64.keep d1;have hm64:=MapF.other hm64 d3 (Am (by omega));clear a7;have a7:=d2;clear d2;have j1:=bl a7;clear dy;refine gS (Yk.fieldAt Nk rfl (gS (Yf rfl (El (x:=((es.getD (q) dEnt):Ag)) a7) UY rfl (by rw[Aa8,hcl.2];exact Rb) (gS (Yr (ek:=rk) (ev:=BA) (D:=(fun id:List UInt8=>id.length=32)) Ce Cf (fun _ _=>B9) Kw (z:=BA dEnt) Da af rfl hm64 hcl.2 hl (gS (Yk.extract (vs:= [.agg (entC (c)).toArray, .bool (true)]) rfl rfl (gS (Yk.extract (vs:= [.agg (entC (c)).toArray, .bool (true)]) rfl rfl (gS (Yk.alloc Hv fun d4 f5 f6 d5 bz j2=> ?_)))))))))));have b0:=Ext.refl f4;have bh:=bh.trans d1;have bh:=Ab bh d3 (AaV (AaX _) (by omega));have hE:=hE.trans bh;have p:=p.trans bh;have t:=t.trans bh;have f7:=hE.size;have f8:=p.size;have f9:=t.size;have j3:=Ar hm64.lt f6;have cd:=d5;clear d5;have j4:d4<f5.heap.size:=by omega
       refine gS (XN (vr (PQ d4 0) rfl) (vr (.agg (entC (c)).toArray) rfl) cd (Bo (x:=((c):Ag)) (y:=(dEnt:Ag)) hcx.2.1 (by simp[dEnt])) (Bc (x:=((c):Ag)) Ey hcx.2.1) (Bw (x:=((c):Ag)) (RB.one hcx.1).2) fun j5 d6 b1 j6=> ?_);have hm64:=hm64.keep bz;have hm64:=MapF.other hm64 b1 (Am (by omega));clear cd;have cd:=d6;clear d6;have j7:=bl cd;have b0:=b0.trans bz;have b0:=Ab b0 b1 (AaV (AaX _) (by omega));have a7:=eb b0 a7;refine gS (Yk.fieldAt F9 rfl (gS (XJ JI rfl rfl (cellAt a7 ((show(entC ((es.getD (q) dEnt)))[1]? =some (.bool false:AaR)from congrArg (fun b=>some (AbA b)) hbx))) (gS (Ym rfl (gS (XR rfl rfl (gP (XZ FP rfl rfl ?_)))))))));refine Ap (AS _ (true) 6) ?_ ?_;rotate_left
       ·rintro ch j8 ⟨rfl,hb,hx⟩;refine As ?_;cases hb
       rintro v_ j9 ⟨rfl,ka,ce⟩;have hE:=hE.trans bz;have hE:=Ab hE b1 (AaV f7 (by omega));have hE:=hE.trans ce;have p:=p.trans bz;have p:=Ab p b1 (AaV f8 (by omega));have p:=p.trans ce;have t:=t.trans bz;have t:=Ab t b1 (AaV f9 (by omega));have t:=t.trans ce;have hm64:=hm64.keep ce;refine gS (XL (xv:=NI q) (yv:=NI 1) am rfl rfl (Ai _ _ _ (by omega)) (gK (Aby ⟨q+1,T0,T2,T3,T4,T5,T6,T7,T8,T9,af,ax,ai,ay,be,rfl,hE,p,hm64,t,by omega,fun j hj=>by by_cases e:j=q;subst e;exact(fun hbt=>by rw[hbx]at hbt;cases hbt);exact hbs j (by omega),trivial⟩ ?_)));show es.length-(intOf (NI ((q)+(1)))).toNat<es.length-(intOf (cw 103)).toNat;rw[q103];simp only[intOf,Aba];omega
      have ga:(entC (es.getD (q) dEnt)).length=35:=(RG.elem (au.keep p) dEnt (by omega));refine gS (X4 FQ Ow (by decide) dEnt (XU (au.keep p) ay) am (by omega) fun kc d7=>(gS (X9 (Yb d7 rfl) (Ku).choose_spec rfl (by rw[ga];exact Ey) (gS (Yk.alloc Hv fun d8 gb gc d9 ea kd=> ?_)))));have bi:=Ext.refl b9;have ke:=hE.size;have kf:=p.size;have kg:=t.size;have kh:=Ar hm64.lt gc;have a8:=d9;clear d9;have ki:d8<gb.heap.size:=by omega
      refine gS (XN (vr (PQ d8 0) rfl) (vr (.agg (entC (es.getD (q) dEnt)).toArray) rfl) a8 (Bo (x:=((es.getD (q) dEnt):Ag)) (y:=(dEnt:Ag)) hcl.2 (by simp[dEnt])) (Bc (x:=((es.getD (q) dEnt):Ag)) Ey hcl.2) (Bw (x:=((es.getD (q) dEnt):Ag)) (RB.one hcl.1).2) fun gd ec ed kj=> ?_);have hm64:=hm64.keep ea;have hm64:=MapF.other hm64 ed (Am (by omega));clear a8;have a8:=ec;clear ec;have kl:=bl a8;clear d7;refine gS (Yk.fieldAt Nk rfl (gS (Yf rfl (El (x:=((es.getD (q) dEnt):Ag)) a8) UY rfl (by rw[Aa8,hcl.2];exact Rb) (gS (Yr (ek:=rk) (ev:=BA) (D:=(fun id:List UInt8=>id.length=32)) Ce Cf (fun _ _=>B9) Kw (z:=BA dEnt) Da af rfl hm64 hcl.2 hl (gS (Yk.extract (vs:= [.agg (entC (c)).toArray, .bool (true)]) rfl rfl (gS (Yk.extract (vs:= [.agg (entC (c)).toArray, .bool (true)]) rfl rfl (gS (Yk.alloc Hv fun ee ge gf ef b2 km=> ?_)))))))))));have b3:=Ext.refl gd;have bi:=bi.trans ea;have bi:=Ab bi ed (AaV (AaX _) (by omega));have hE:=hE.trans bi;have p:=p.trans bi;have t:=t.trans bi;have gg:=hE.size;have gh:=p.size;have gi:=t.size;have kn:=Ar hm64.lt gf;have cf:=ef;clear ef;have ko:ee<ge.heap.size:=by omega
      refine gS (XN (vr (PQ ee 0) rfl) (vr (.agg (entC (c)).toArray) rfl) cf (Bo (x:=((c):Ag)) (y:=(dEnt:Ag)) hcx.2.1 (by simp[dEnt])) (Bc (x:=((c):Ag)) Ey hcx.2.1) (Bw (x:=((c):Ag)) (RB.one hcx.1).2) fun kp eg b4 kq=> ?_);have hm64:=hm64.keep b2;have hm64:=MapF.other hm64 b4 (Am (by omega));clear cf;have cf:=eg;clear eg;have kr:=bl cf;have b3:=b3.trans b2;have b3:=Ab b3 b4 (AaV (AaX _) (by omega));have a8:=eb b3 a8;refine gS (Yk.fieldAt F9 rfl (gS (XJ JI rfl rfl (cellAt a8 ((show(entC ((es.getD (q) dEnt)))[1]? =some (.bool true:AaR)from congrArg (fun b=>some (AbA b)) hbx))) (gS (Ym rfl (gS (XV rfl rfl (gP (XZ FP rfl rfl ?_)))))))));refine Ap (AS _ (true) 6) ?_ ?_;rotate_left
      ·rintro ch ks ⟨rfl,hb,hx⟩;refine As ?_;cases hb
      rintro v_ kt ⟨rfl,ku,cg⟩;have hE:=hE.trans b2;have hE:=Ab hE b4 (AaV gg (by omega));have hE:=hE.trans cg;have p:=p.trans b2;have p:=Ab p b4 (AaV gh (by omega));have p:=p.trans cg;have t:=t.trans b2;have t:=Ab t b4 (AaV gi (by omega));have t:=t.trans cg;have hm64:=hm64.keep cg;refine gS (XL (xv:=NI q) (yv:=NI 1) am rfl rfl (Ai _ _ _ (by omega)) (gK (Aby ⟨q+1,T0,T2,T3,T4,T5,T6,T7,T8,T9,af,ax,ai,ay,be,rfl,hE,p,hm64,t,by omega,fun j hj=>by by_cases e:j=q;subst e;exact(fun _ hn=>by rw[hl]at hn;cases hn);exact hbs j (by omega),trivial⟩ ?_)));show es.length-(intOf (NI ((q)+(1)))).toNat<es.length-(intOf (cw 103)).toNat;rw[q103];simp only[intOf,Aba];omega
     have hbb:=R2 (fun j hj=>hbs j (by omega));have hP5:Cu b=Gy (Ky s.plain.M) s.ids:=hP4.trans (if_pos hbb);refine gS (YD rk Ch (fun id:List UInt8=>id.length=32) fun aj gj gk aq ci kv=> ?_);have kw:=hE.size;have kx:=p.size;have ky:=t.size;have kz:=Ar hm64.lt gk;have k0:aj<gj.heap.size:=by omega
     refine gS (Yx af (vr (.map (some aj)) rfl) (fun w=>KC (ab) (aj) w) (gS (Yk.box (cs:=([.map (some ab), .map (some aj)]:List AaR).toArray) (show _=(.agg ([.map (some ab), .map (some aj)]).toArray:AaR)from rfl) fun bj gl eh ei b5 k1=> ?_)));have hE:=hE.trans ci;have p:=p.trans ci;have t:=t.trans ci;have k2:=hE.size;have k3:=p.size;have k4:=t.size;have hm64:=hm64.keep ci;have k5:=Ar hm64.lt eh;have k6:=Ar aq.lt eh;have aa:=ei;clear ei;have k7:bj<gl.heap.size:=by omega
     refine gS (YD rk Ch (fun id:List UInt8=>id.length=32) fun ak gm cz b6 bs k8=> ?_);have hE:=hE.trans b5;have p:=p.trans b5;have t:=t.trans b5;have k9:=hE.size;have la:=p.size;have lb:=t.size;have hm64:=hm64.keep b5;have lc:=Ar hm64.lt cz;have aq:=aq.keep b5;have ld:=Ar aq.lt cz;have le:ak<gm.heap.size:=by omega
     have hlo_bo:w.heap.size≤ak:=by omega
     have t:=t.trans bs;refine gS (Yx T9 (vr (.map (some ak)) rfl) (fun w=>KD (RG.slice (bd.keep t)) (ak) w) (gS (Yk.box (cs:=([ah, .map (some ak)]:List AaR).toArray) (show _=(.agg ([ah, .map (some ak)]).toArray:AaR)from rfl) fun bt gn cj ej bk lf=> ?_)));have hE:=hE.trans bs;have p:=p.trans bs;have lg:=hE.size;have lh:=p.size;have li:=t.size;have hm64:=hm64.keep bs;have lj:=Ar hm64.lt cj;have aq:=aq.keep bs;have lk:=Ar aq.lt cj;have ll:=Ar b6.lt cj;have ag:=ej;clear ej;have lm:bt<gn.heap.size:=by omega
     have hlo_gp:w.heap.size≤bt:=by omega
     have ln:=Ar (bl aa) cz;have aa:=eb bs aa;have lo:=Ar (bl aa) cj;have aa:=eb bk aa;have hE:=hE.trans bk;have p:=p.trans bk;have hm64:=hm64.keep bk;have t:=t.trans bk;have aq:=aq.keep bk;have b6:=b6.keep bk;refine gS (X1 M4 (XU (bd.keep t) T9) (gL (fun(ρ:Ad) (wz:AaS)=>∃i:Nat,∃st:HX,∃H:Bs→Option Cp,∃O:Bs→Option Cp,ρ 0=(v:AaR)∧ρ 2=(.pointer none:AaR)∧ρ 3=(NI ((b.length)-(36)):AaR)∧ρ 4=(NI f:AaR)∧ρ 5=(NI n:AaR)∧ρ 6=(NI (1+k):AaR)∧ρ 7=(NI 0:AaR)∧ρ 8=(bq:AaR)∧ρ 9=(ah:AaR)∧ρ 10=(.map (some ab):AaR)∧ρ 17=(PQ bj 0:AaR)∧ρ 18=(PQ bt 0:AaR)∧ρ 85=(.agg ((A8 (s.ids)).map fun x=>NI x).toArray:AaR)∧ρ 86=(NI m:AaR)∧ρ 101=(bq:AaR)∧ρ 102=(NI es.length:AaR)∧ρ 103=(NI q:AaR)∧ρ 130=(ah:AaR)∧ρ 131=(NI ((s.ids).length):AaR)∧ρ 132=(NI i:AaR)∧ρ 19=(NI st.total:AaR)∧Ext w wz∧Ext br wz∧MapF rk BA (fun id:List UInt8=>id.length=32) wz ab s.M∧Ext bc wz∧wz.heap[bj]? =some (.cells ([.map (some ab), .map (some aj)]).toArray 212 (0,0))∧wz.heap[bt]? =some (.cells ([ah, .map (some ak)]).toArray 163 (0,0))∧HOk wz s.M H∧OOk wz O∧MapF rk Ch (fun id:List UInt8=>id.length=32) wz aj (H)∧MapF rk Ch (fun id:List UInt8=>id.length=32) wz ak (O)∧(Dx (AD s.M) s.ids i = .ok st)∧(i≤s.ids.length)∧((fun k=>(O k).map Abq)=st.O)∧(st.total≤4194304)∧(NewM w.heap.size H)∧(NewM w.heap.size O)∧True) (fun ρ _=>s.ids.length-(intOf (ρ 132)).toNat) ⟨0,⟨0,fun _=>none⟩,fun _=>none,fun _=>none,T0,T2,T3,T4,T5,T6,T7,T8,T9,af,rfl,rfl,ax,ai,ay,be,am,T9,rfl,rfl,rfl,hE,p,hm64,t,aa,ag,HOk.nil,OOk.nil _,B4 aq (rfl),B4 b6 (rfl),rfl,Abs _,rfl,Abs _,NewM.none _,NewM.none _,trivial⟩ ?_));clear aq;clear b6;clear hE p hm64 t aa ag;rintro go gp ⟨i,st,H,O,T0,T2,T3,T4,T5,T6,T7,T8,T9,af,c0,c1,ax,ai,ay,be,am,el,em,ck,gq,hE,p,hm64,t,aa,ag,hHO,hOO,hb332l,hb367l,hs,hi,hO,htot,hNH,hNO,-⟩;have q132:=ck;refine gS (XK (a:=(i:Nat)) (b:=((s.ids).length:Nat)) ck em (AL _ _ _ _) ?_);refine cD rfl (fun en=> ?_) fun en=> ?_
     ·have hc3_:i<s.ids.length:=en;have hid32:(s.ids.getD i []).length=32:=by have:=RG.elem (bd.keep t) ([]:List UInt8) hc3_;rwa [Aa8]at this
      have oerr:∀c,Db (AD s.M) (s.ids.getD i []) st = .error c→Cu b = .error c:=fun c hc=>by rw[hP5];unfold Gy;rw[←Jm];have h1:=Gx ((EY hs).trans hc) (s.ids.length-(i+1));rw[show i+1+(s.ids.length-(i+1))=s.ids.length by omega]at h1;show(match Dx (AD s.M) s.ids s.ids.length with | .error e=>_ | .ok o=>_)=_;rw[h1]
      have a9:(AaT ((s.ids).getD (i) ([]:List UInt8))).length=32:=(RG.elem (bd.keep t) ([]:List UInt8) (by omega));refine gS (X4 M4 Rs (by decide) ([]:List UInt8) (XU (bd.keep t) el) ck (by omega) fun lp eo=>(gS (X9 (Yb eo rfl) UY rfl (by rw[a9];exact Rb) (gS (Yk.alloc Tf fun cl gr c2 ep cm lq=> ?_)))));have ad:=Ext.refl gp;have lr:=hE.size;have ls:=p.size;have lu:=t.size;have lv:=Ar hm64.lt c2;have lw:=Ar hb332l.lt c2;have lx:=Ar hb367l.lt c2;have ac:=ep;clear ep;have ly:cl<gr.heap.size:=by omega
      refine gS (XN (vr (PQ cl 0) rfl) (vr (AB ((s.ids).getD (i) ([]:List UInt8))) rfl) ac (by exact Bv (AC (a9)) Abc) (by exact Ac (AC (a9))) (Af _) fun lz eq cn l0=> ?_);have hm64:=hm64.keep cm;have hm64:=MapF.other hm64 cn (Am (by omega));have hb332l:=hb332l.keep cm;have hb332l:=MapF.other hb332l cn (Am (by omega));have hb367l:=hb367l.keep cm;have hb367l:=MapF.other hb367l cn (Am (by omega));clear ac;have ac:=eq;clear eq;have l3:=bl ac;clear eo;have ad:=ad.trans cm;have ad:=Ab ad cn (AaV (AaX _) (by omega));have aa:=eb ad aa;have t:=t.trans ad;refine gS (XO rfl ac UY rfl (by exact Ac (AC (a9))) (gP (XZ Qf c0 rfl ?_)));refine Ap (P9 _ bj ab aj s.M aa hm64 (hMO.keep t) (s.ids.getD i []) hid32) ?_ ?_;rotate_left
      ·rintro ch l4 ⟨hno,rfl,hx⟩;refine As ?_;have hE:=hE.trans ad;exact .inr ⟨_,rfl,17,oerr 17 (Kz hno),rfl,hE.trans hx⟩
      rintro v_ gs ⟨dd,hdp,rfl,bm⟩;have hdle:=KB hdp;have ad:=ad.trans bm;have hE:=hE.trans ad;have hm64:=hm64.keep bm;have t:=t.trans bm;have aa:=eb bm aa;have hb332l:=hb332l.keep bm;have ac:=eb bm ac;refine gS (XO rfl ac UY rfl (by exact Ac (AC (a9))) (gP (XZ Qa c0 rfl ?_)));refine Ap (RZ bj ab aj s.M dd _ H (s.ids.getD i []) aa hm64 hb332l (hMO.keep t) (hHO.keep ad) (by omega) hid32 hdle 50 hdp w.heap.size hNM hNH (hE).size) ?_ ?_;rotate_left
      ·rintro ch l5 ⟨hno,rfl,hx⟩;refine As ?_;exact .inr ⟨_,rfl,6,oerr 6 (LL hdp hno),rfl,Dz hE hx hE.size (fun k hk=>by cases hk;omega)⟩
      rintro v_ ar ⟨az,bb,kk,H1,rfl,hcg,bn,hm455,hHO456,co,hNv1,hNH1⟩;have bp:=co.grown;have hm461:D7 gs aj:=(YJ hb332l).noB8;have hE:Ext w ar:=Dz hE co hE.size (fun k hk=>by cases hk;omega);have p:=p.trans ad;have p:Ext br ar:=Dz p co p.size (fun k hk=>by cases hk;omega);have hm64:MapF rk BA (fun id:List UInt8=>id.length=32) ar ab s.M:=MapF.other hm64 bp (Am (by omega));have t:Ext bc ar:=Dz t co t.size (fun k hk=>by cases hk;omega);have aa:ar.heap[bj]? =some (.cells ([.map (some ab), .map (some aj)]).toArray 212 (0,0)):=kb bp aa (by omega);have ag:=eb ad ag;have ag:ar.heap[bt]? =some (.cells ([ah, .map (some ak)]).toArray 163 (0,0)):=kb bp ag (by omega);have hHO:HOk ar s.M H:=(hHO.keep ad).keepN hm461 bp;have hOO:OOk ar O:=(hOO.keep ad).keepN hm461 bp;clear hb332l;have hb367l:=hb367l.keep bm;have hb367l:MapF rk Ch (fun id:List UInt8=>id.length=32) ar ak (O):=MapF.other hb367l bp (Am (by omega));have ac:ar.heap[cl]? =some (.cells (AaT ((s.ids).getD (i) ([]:List UInt8))).toArray 33 (0,0)):=kb bp ac (by omega);have l6:=hE.size;have l7:=p.size;have l8:=t.size;have hcl:=Hw hcg;refine gS (Yk.alloc DG fun c3 gt c4 er cp l9=> ?_);have u:=Ext.refl ar;have ma:=hE.size;have mb:=p.size;have mc:=t.size;have md:=Ar hm64.lt c4;have me:=Ar hb367l.lt c4;have mf:=Ar hm455.lt c4;have ae:=er;clear er;have mg:c3<gt.heap.size:=by omega
      have u:=u.trans cp;refine gS (XN (vr (PQ c3 0) rfl) (vr (.agg ([az,NI kk]).toArray) rfl) ae rfl (show(Tryz.prog.info? 215).map (·.size)=some 2 from Bf) (Cn (RB.one (bn.keep u)).2) fun mh et cq mi=> ?_);have hm64:=hm64.keep cp;have hm64:=MapF.other hm64 cq (Am (by omega));have hb367l:=hb367l.keep cp;have hb367l:=MapF.other hb367l cq (Am (by omega));have hm455:=hm455.keep cp;have hm455:=MapF.other hm455 cq (Am (by omega));clear ae;have ae:=et;clear et;have mj:=bl ae;refine DV [0,1,4,2,3,5,6] [2,3,6] [] [4] fun gu c5=> ?_;have cr:=Ext.refl gu;have u:=Ab u cq (AaV (AaX _) (by omega));have u:=u.trans c5;have ac:=eb u ac;have ae:=eb c5 ae;refine DQ cr ?_;refine ys (Yk.fieldAt Gf rfl zz) (ys (XJ F5 rfl rfl (cellAt ae rfl) zz) (yf (fun _ ⟨hZ,_⟩=>XO rfl (eb hZ ac) UY rfl (by exact Ac (AC (a9))) zz) (yE (Yu F8 (XP (bn.keep u) (vr az rfl)) fun gv gw eu ct=> ?_))));have cr:=cr.trans ct;refine⟨cr,?_⟩;have c6:=Ext.refl gw;have u:=u.trans ct;have hE:=hE.trans u;refine yE (XQ JG rfl ((FY _ (hG.keep hE) gv (bb) eu (by omega)).mono ?_));rintro e mk ⟨rfl,b7⟩;refine⟨_,rfl,?_⟩;have c6:=c6.trans b7;refine⟨c6,?_⟩;refine ys (Zw (l1:=(Sha.sum (bb))) (l2:=((s.ids).getD (i) ([]:List UInt8))) UY u5 PG R3 rfl rfl ((Sha.sum_length _)) (hid32) zz) (XE rfl (XZ FP rfl rfl ?_));refine Ap (AS _ (decide ((Sha.sum (bb))=((s.ids).getD (i) ([]:List UInt8)))) 18) ?_ ?_;rotate_left
      ·rintro ch ml ⟨rfl,hb,hx⟩;refine As ?_;have hno:=of_decide_eq_false hb;have hE:=hE.trans b7;exact .inr ⟨_,rfl,18,oerr 18 ((EX hdp hcg).trans (if_neg hno)),rfl,hE.trans hx⟩
      rintro v_ mm ⟨rfl,gx,c7⟩;have gy:=of_decide_eq_true gx;have hsum:=gy;have hZ2:=(ct.trans b7).trans c7;have ae:=eb hZ2 ae;have hZ3:=b7.trans c7;have u:=u.trans hZ3;refine gS (Yk.fieldAt Gf rfl (gS (XJ F5 rfl rfl (cellAt ae rfl) (gS (XS F5 (XP (bn.keep u) rfl) (gS (XL (xv:=NI st.total) (yv:=NI bb.length) gq rfl rfl (Ai _ _ _ (by omega)) (gS (XK (a:=((st.total)+(bb.length):Nat)) (b:=(4194304:Nat)) rfl rfl (Dw _ _ _ _) (gP (XZ FP rfl rfl ?_)))))))))));refine Ap (AS _ (decide (((st.total)+(bb.length))≤(4194304))) 2) ?_ ?_;rotate_left
      ·rintro ch mn ⟨rfl,hb,hx⟩;refine As ?_;have hno:=of_decide_eq_false hb;have hE:=hE.trans hZ3;exact .inr ⟨_,rfl,2,oerr 2 ((EX hdp hcg).trans ((if_pos hsum).trans (if_neg hno))),rfl,hE.trans hx⟩
      rintro v_ mo ⟨rfl,gz,cu⟩;have ew:=of_decide_eq_true gz;refine CC [0,1,2,3,4,5,6,7,8,9] [9] [] fun g0 cv=> ?_;have hZ4:=cu.trans cv;have u:=u.trans hZ4;have ag:=eb u ag;have hZ5:=((((c5.trans ct).trans b7).trans c7).trans cu).trans cv;have hb367l:=hb367l.keep hZ5;have ac:=eb ((hZ2.trans cu).trans cv) ac;have ae:=eb hZ4 ae;refine ys (Yk.nilCheck c1 zz) (ys (Yk.fieldAt Nr rfl zz) (ys (XJ CH rfl rfl (cellAt ag rfl) zz) (ys (XO rfl ac UY rfl (by exact Ac (AC (a9))) zz) (ys (Yk.fieldAt Gf rfl zz) (ys (XJ F5 rfl rfl (cellAt ae rfl) zz) (ys (Yx (vr az rfl) (vr (NI dd) rfl) (fun w=>Kx (RB.slice (bn.keep u)) (((dd:Nat):Int)) w) zz) (yC (YA (ek:=rk) (ev:=Ch) (D:=(fun id:List UInt8=>id.length=32)) (c:=(((bb,dd),az):Cp)) Ce Cf CH (vr (.map (some ak)) rfl) (vr (AB ((s.ids).getD (i) ([]:List UInt8))) rfl) (vr (.agg ([az,NI dd]).toArray) rfl) hb367l (AC (a9)) fun an g1 ao mp=> ?_))))))));have hOO:=OOk.put (hOO.keep u) (id:=s.ids.getD i []) (x:=(((bb,dd),az):Cp)) (bn.keep u);have hm523:D7 g0 ak:=(YJ hb367l).noB8;have hZ6:=(hZ3.trans cu).trans cv;have hE:=hE.trans hZ6;have hE:Ext w an:=Dz hE (Yj ao (AaX _) (fun k hk=> .inl hk)) hE.size (fun k hk=>by cases hk;omega);have p:=p.trans u;have p:Ext br an:=Dz p (Yj ao (AaX _) (fun k hk=> .inl hk)) p.size (fun k hk=>by cases hk;omega);have hm64:=hm64.keep hZ5;have hm64:MapF rk BA (fun id:List UInt8=>id.length=32) an ab s.M:=MapF.other hm64 ao (Am (by omega));have t:=t.trans u;have t:Ext bc an:=Dz t (Yj ao (AaX _) (fun k hk=> .inl hk)) t.size (fun k hk=>by cases hk;omega);have aa:=eb u aa;have aa:an.heap[bj]? =some (.cells ([.map (some ab), .map (some aj)]).toArray 212 (0,0)):=kb ao aa (by omega);have ag:an.heap[bt]? =some (.cells ([ah, .map (some ak)]).toArray 163 (0,0)):=kb ao ag (by omega);have hOO:OOk an (updM (O) (s.ids.getD (i) ([]:List UInt8)) (some ((((bb,dd),az):Cp)))):=hOO.keepN hm523 ao;clear hb367l;have ac:an.heap[cl]? =some (.cells (AaT ((s.ids).getD (i) ([]:List UInt8))).toArray 33 (0,0)):=kb ao ac (by omega);have bn:RB an az bb:=(bn.keep u).keepN hm523 ao;have hm455:=hm455.keep hZ5;have hm455:MapF rk Ch (fun id:List UInt8=>id.length=32) an aj H1:=MapF.other hm455 ao (Am (by omega));have hHO456:HOk an s.M H1:=(hHO456.keep u).keepN hm523 ao;have ae:an.heap[c3]? =some (.cells ([az,NI kk]).toArray 215 (0,0)):=kb ao ae (by omega);clear eu;have mq:=hE.size;have mr:=p.size;have ms:=t.size;refine gS (XL (xv:=NI i) (yv:=NI 1) ck rfl rfl (Ai _ _ _ (by omega)) (gK (Aby ⟨i+1,⟨st.total+bb.length,updM st.O (s.ids.getD i []) (some (bb,dd))⟩,H1,updM (O) (s.ids.getD (i) ([]:List UInt8)) (some ((((bb,dd),az):Cp))),T0,T2,T3,T4,T5,T6,T7,T8,T9,af,c0,c1,ax,ai,ay,be,am,el,em,rfl,rfl,hE,p,hm64,t,aa,ag,hHO456,hOO,B4 hm455 (rfl),B4 g1 (rfl),(EY hs).trans ((EX hdp hcg).trans ((if_pos hsum).trans (if_pos ew))),by omega,by rw[Hx,hO];rfl,ew,hNH1,NewM.put hNO _ hNv1,trivial⟩ ?_)));show s.ids.length-(intOf (NI ((i)+(1)))).toNat<s.ids.length-(intOf (go 132)).toNat;rw[q132];simp only[intOf,Aba];omega
     have hie:i=s.ids.length:=by omega
     refine Bn rfl c1 ?_;exact .inl ⟨_,rfl,_,_,_,s.ids,O,rfl,by rw[hP5,←Jm,Nq (by rw[←hie];exact hs),hO],ag,(bd.keep t),hb367l,hOO,hlo_gp,hlo_bo,hNvi,hNO,hE⟩
    have hP:Cu b = .error 6:=hP0.trans (if_neg (fun h=>by have h1:=h.2;exact q3 h1.2.2));have hE:=hE.trans ba;refine gS (XM CG rfl rfl (((show Calls _ _ _ _ (fun e w2=>e = .returned (.tuple #[NI n,NI (1+k),NI 0])∧Ext _ w2)from(Ex _ v b (hr.keep hE) 1 (by omega)).mono fun e w2 ⟨h1,h2⟩=>by subst h2;subst h1;rw[hd];exact⟨rfl,Ext.refl _⟩)).mono ?_));rintro e mt ⟨rfl,g2⟩;refine⟨_,rfl,?_⟩;have hE:=hE.trans g2;refine gS (Yk.extract (vs:= [NI n,NI (1+k),NI 0]) rfl rfl (gS (Yk.extract (vs:= [NI n,NI (1+k),NI 0]) rfl rfl (gS (Yk.extract (vs:= [NI n,NI (1+k),NI 0]) rfl rfl (gS (X7 (l:=b) (i:=0) F5 PG (XP (hr.keep hE) rfl) rfl (by omega) fun mu g3=>(gS (X0 u5 rfl (X6 g3 rfl) (gS (XK (a:=((b.getD (0) 0).toNat:Nat)) (b:=(80:Nat)) rfl rfl (AA _ _ _ _) (kT (h80) (gS (XK (a:=(0:Nat)) (b:=(0:Nat)) rfl rfl (AA _ _ _ _) (kT (rfl) (gS (XR rfl rfl (gS (XK (a:=(f:Nat)) (b:=(1+k:Nat)) rfl rfl (EQ _ _ _ _) (kT (q1) (gS (XR rfl rfl (gS (XK (a:=(f:Nat)) (b:=((b.length)-(36):Nat)) rfl rfl (Dw _ _ _ _) (kT (q2) (gS (XR rfl rfl (gS (XK (a:=(n:Nat)) (b:=((b.length)-(36):Nat)) rfl rfl (Dw _ _ _ _) (kF (q3) (gS (XR rfl rfl (gP (XZ FP rfl rfl ?_))))))))))))))))))))))))))))))))));refine Ap (AS _ (false) 6) ?_ ?_;rotate_left
    ·rintro ch mv ⟨rfl,hb,hx⟩;refine As ?_;exact .inr ⟨_,rfl,6,hP,rfl,hE.trans hx⟩
    rintro v_ mw ⟨rfl,g4,mx⟩;cases g4
   have hP:Cu b = .error 6:=hP0.trans (if_neg (fun h=>by have h1:=h.2;exact q2 h1.2.1));have hE:=hE.trans ba;refine gS (XM CG rfl rfl (((show Calls _ _ _ _ (fun e w2=>e = .returned (.tuple #[NI n,NI (1+k),NI 0])∧Ext _ w2)from(Ex _ v b (hr.keep hE) 1 (by omega)).mono fun e w2 ⟨h1,h2⟩=>by subst h2;subst h1;rw[hd];exact⟨rfl,Ext.refl _⟩)).mono ?_));rintro e my ⟨rfl,g5⟩;refine⟨_,rfl,?_⟩;have hE:=hE.trans g5;refine gS (Yk.extract (vs:= [NI n,NI (1+k),NI 0]) rfl rfl (gS (Yk.extract (vs:= [NI n,NI (1+k),NI 0]) rfl rfl (gS (Yk.extract (vs:= [NI n,NI (1+k),NI 0]) rfl rfl (gS (X7 (l:=b) (i:=0) F5 PG (XP (hr.keep hE) rfl) rfl (by omega) fun mz g6=>(gS (X0 u5 rfl (X6 g6 rfl) (gS (XK (a:=((b.getD (0) 0).toNat:Nat)) (b:=(80:Nat)) rfl rfl (AA _ _ _ _) (kT (h80) (gS (XK (a:=(0:Nat)) (b:=(0:Nat)) rfl rfl (AA _ _ _ _) (kT (rfl) (gS (XR rfl rfl (gS (XK (a:=(f:Nat)) (b:=(1+k:Nat)) rfl rfl (EQ _ _ _ _) (kT (q1) (gS (XR rfl rfl (gS (XK (a:=(f:Nat)) (b:=((b.length)-(36):Nat)) rfl rfl (Dw _ _ _ _) (kF (q2) (gS (XR rfl rfl (gS (XV rfl rfl (gP (XZ FP rfl rfl ?_)))))))))))))))))))))))))))))));refine Ap (AS _ (false) 6) ?_ ?_;rotate_left
   ·rintro ch m0 ⟨rfl,hb,hx⟩;refine As ?_;exact .inr ⟨_,rfl,6,hP,rfl,hE.trans hx⟩
   rintro v_ m1 ⟨rfl,g7,m3⟩;cases g7
  have hP:Cu b = .error 6:=hP0.trans (if_neg (fun h=>by have h1:=h.2;exact q1 h1.1));have hE:=hE.trans ba;refine gS (XM CG rfl rfl (((show Calls _ _ _ _ (fun e w2=>e = .returned (.tuple #[NI n,NI (1+k),NI 0])∧Ext _ w2)from(Ex _ v b (hr.keep hE) 1 (by omega)).mono fun e w2 ⟨h1,h2⟩=>by subst h2;subst h1;rw[hd];exact⟨rfl,Ext.refl _⟩)).mono ?_));rintro e m4 ⟨rfl,g8⟩;refine⟨_,rfl,?_⟩;have hE:=hE.trans g8;refine gS (Yk.extract (vs:= [NI n,NI (1+k),NI 0]) rfl rfl (gS (Yk.extract (vs:= [NI n,NI (1+k),NI 0]) rfl rfl (gS (Yk.extract (vs:= [NI n,NI (1+k),NI 0]) rfl rfl (gS (X7 (l:=b) (i:=0) F5 PG (XP (hr.keep hE) rfl) rfl (by omega) fun m5 g9=>(gS (X0 u5 rfl (X6 g9 rfl) (gS (XK (a:=((b.getD (0) 0).toNat:Nat)) (b:=(80:Nat)) rfl rfl (AA _ _ _ _) (kT (h80) (gS (XK (a:=(0:Nat)) (b:=(0:Nat)) rfl rfl (AA _ _ _ _) (kT (rfl) (gS (XR rfl rfl (gS (XK (a:=(f:Nat)) (b:=(1+k:Nat)) rfl rfl (EQ _ _ _ _) (kF (q1) (gS (XR rfl rfl (gS (XV rfl rfl (gS (XV rfl rfl (gP (XZ FP rfl rfl ?_))))))))))))))))))))))))))));refine Ap (AS _ (false) 6) ?_ ?_;rotate_left
  ·rintro ch m6 ⟨rfl,hb,hx⟩;refine As ?_;exact .inr ⟨_,rfl,6,hP,rfl,hE.trans hx⟩
  rintro v_ m7 ⟨rfl,ha,m8⟩;cases ha
 have hP:Cu b = .error 6:=hP0.trans (if_neg (fun h=>h80 (by rw[h.1];rfl)));have hE:=hE.trans ba;refine gS (XM CG rfl rfl (((show Calls _ _ _ _ (fun e w2=>e = .returned (.tuple #[NI n,NI (1+k),NI 0])∧Ext _ w2)from(Ex _ v b (hr.keep hE) 1 (by omega)).mono fun e w2 ⟨h1,h2⟩=>by subst h2;subst h1;rw[hd];exact⟨rfl,Ext.refl _⟩)).mono ?_));rintro e m9 ⟨rfl,he⟩;refine⟨_,rfl,?_⟩;have hE:=hE.trans he;refine gS (Yk.extract (vs:= [NI n,NI (1+k),NI 0]) rfl rfl (gS (Yk.extract (vs:= [NI n,NI (1+k),NI 0]) rfl rfl (gS (Yk.extract (vs:= [NI n,NI (1+k),NI 0]) rfl rfl (gS (X7 (l:=b) (i:=0) F5 PG (XP (hr.keep hE) rfl) rfl (by omega) fun na hg=>(gS (X0 u5 rfl (X6 hg rfl) (gS (XK (a:=((b.getD (0) 0).toNat:Nat)) (b:=(80:Nat)) rfl rfl (AA _ _ _ _) (kF (h80) (gS (XV rfl rfl (gS (XV rfl rfl (gS (XV rfl rfl (gS (XV rfl rfl (gP (XZ FP rfl rfl ?_))))))))))))))))))))));refine Ap (AS _ (false) 6) ?_ ?_;rotate_left
 ·rintro ch nb ⟨rfl,hb,hx⟩;refine As ?_;exact .inr ⟨_,rfl,6,hP,rfl,hE.trans hx⟩
 rintro v_ nc ⟨rfl,hh,nd⟩;cases hh
structure FitsD (n : Nat) (D : List Deferred) (ρ : Ad) (a : Act) : Prop where
  size:a.tmps.size=n
  defers:a.defers=D
  get:∀t,a.tmps.getD t undef=ρ t
theorem FitsD.fits{n:Nat}{D:List Deferred}{ρ:Ad}{a:Act}(h:FitsD n D ρ a):Fits n ρ { a with defers:= [] } :=⟨h.size,rfl,h.get⟩
theorem ZD{n:Nat}{ρ:Ad}{a:Act}(h:Fits n ρ a):FitsD n [] ρ a:=⟨h.size,h.defers,h.get⟩
theorem FitsD.toFits{n:Nat}{ρ:Ad}{a:Act}(h:FitsD n [] ρ a):Fits n ρ a:=⟨h.size,h.defers,h.get⟩
theorem FitsD.eval{n:Nat}{D:List Deferred}{ρ:Ad}{a:Act}(h:FitsD n D ρ a):a.eval=Aa ρ:=by
  funext x
  cases x with
  | tmp t=>exact h.get t
  | _=>rfl
theorem FitsD.put{n:Nat}{D:List Deferred}{ρ:Ad}{a:Act}(h:FitsD n D ρ a)(d:Option Tmp)(hd:∀t,d=some t→t<n)(v:AaR):FitsD n D (updO ρ d v) (a.put d v):=by
  have hf:=h.fits.put d hd v;cases d with
  | none=>exact h
  | some d=>exact⟨hf.size,h.defers,hf.get⟩
def Ns(P:Abo)(n:Nat)(D:List Deferred)(c:Ac7)(QQ:AdA→Act→AaS→Prop)(ρ:Ad)(w:AaS):Prop:=∀a,FitsD n D ρ a→c.wp P QQ a w
def Ix(P:Abo)(ops:Array Abi)(n:Nat)(D:List Deferred)(QQ:AdA→Act→AaS→Prop)(l:List Abi)(ρ:Ad)(w:AaS):Prop:=∀a,FitsD n D ρ a→wpList P ops QQ l a w
section
variable {P : Abo} {n : Nat} {D : List Deferred} {QQ : AdA → Act → AaS → Prop} {ρ : Ad} {w : AaS}
theorem Cx{x y:Ac7}(QR:BE)(hq:∀e ρ a w,e ≠ .normal→Fits n ρ a→QR e ρ w→QQ e a w)(h:∀K:Ad→AaS→Prop,(∀ρ w,Ns P n [] y QQ ρ w→K ρ w)→B0 P n x (Gn K QR) ρ w):Ns P n [] (.seq x y) QQ ρ w:=fun a ha=>
  wp_seq (wp_mono (h (fun ρ w=>Ns P n [] y QQ ρ w) (fun _ _ h=>h) a ha.toFits) fun e a' w' ⟨ρ',hf,hQ⟩=>by
    cases e with
    | normal=>exact hQ a' (ZD hf)
    | exit _=>exact hq _ ρ' a' w' (by simp) hf hQ
    | goto _=>exact hq _ ρ' a' w' (by simp) hf hQ
    | ret=>exact hq _ ρ' a' w' (by simp) hf hQ
    | panic _=>exact hq _ ρ' a' w' (by simp) hf hQ
    | outgrown=>exact hq _ ρ' a' w' (by simp) hf hQ)
theorem Iy{id:Nat}{l:List Abi}{y:Ac7}(h:Ix P l.toArray n D (Exit.then (y.wp P QQ) QQ) l ρ w):Ns P n D (.seq (.region id l.toArray false) y) QQ ρ w:=fun a ha=>wp_seq (wp_region_lit (h a ha))
theorem Vn(h:∀a,FitsD n D ρ a→QQ .ret a w):Ns P n D .ret QQ ρ w:=fun a ha=>wp_ret (h a ha)
theorem Nt{ops:Array Abi}{y:Ac7}(I:Ad→Prop)(hI:I ρ)(h:∀ρ',I ρ' →Ns P n D y QQ ρ' w):Ix P ops n D (Exit.then (y.wp P QQ) QQ) [] ρ w:=fun a ha=>h ρ hI a ha
theorem KE{ops:Array Abi}{rest:List Abi}{dst:Option Tmp}{op:Op}{ty:AaZ}{pos:String}{af:Array AbP}(hd:(match dst with | some d=>Ac3 d n | none=>true)=true) 
    (h:Yp P (fun v w' =>Ix P ops n D QQ rest (updO ρ dst v) w') (fun ch w' =>∀a,FitsD n D ρ a→QQ (.panic ch) a w') ((execOp (Aa ρ) ⟨dst,op,ty,pos,af,none⟩).run P w)):Ix P ops n D QQ (⟨dst,op,ty,pos,af,none⟩ :: rest) ρ w:=by
  intro a ha;have hdn:∀t,dst=some t→t<n:=fun t ht=>by subst ht;exact Aa9 hd
  refine wpList_plain rfl fun K hK=> ?_;unfold AdF AdU;rw[ha.eval];have hput:=fun v=>ha.put dst hdn v
  revert h
  generalize (execOp (Aa ρ) ⟨dst,op,ty,pos,af,none⟩).run P w=r
  intro h
  match r,h with
  | .ok (.value v) w',h=>exact hK _ _ (h _ (hput v))
  | .ok .skip w',h=>exact hK _ _ (h _ (hput undef))
  | .halt (.panic v) w',h=>exact h a ha
  | .ok (.enter f args) w',h=>
    refine AdV h ?_;intro e w'' hx
    match e,hx with
    | .returned v,hx=>exact hK _ _ (hx _ (hput v))
    | .panicked ch,hx=>exact hx a ha
theorem GA{ops:Array Abi}{rest:List Abi}{dst:Option Tmp}{op:Op}{ty:AaZ}{pos:String}{af:Array AbP}(hd:(match dst with | some d=>Ac3 d n | none=>true)=true) 
    (h:Yk P (fun v w' =>Ix P ops n D QQ rest (updO ρ dst v) w') ((execOp (Aa ρ) ⟨dst,op,ty,pos,af,none⟩).run P w)):Ix P ops n D QQ (⟨dst,op,ty,pos,af,none⟩ :: rest) ρ w:=
  KE hd (Yp.ofK h)
theorem Qg{ops:Array Abi}{rest:List Abi}{x:Aa5}{ty:AaZ}{pos:String}{af:Array AbP}{fv:Fn}{first cap:Array AaR}(hx:Aa ρ x = .func fv first cap) 
    (hr:(execOp (Aa ρ) ⟨none, .defer ⟨.value x,#[],#[]⟩,ty,pos,af,none⟩).run P w = .ok (.defer ⟨.fn fv cap,first⟩) w)
    (h:Ix P ops n (⟨.fn fv cap,first⟩ :: D) QQ rest ρ w):Ix P ops n D QQ (⟨none, .defer ⟨.value x,#[],#[]⟩,ty,pos,af,none⟩ :: rest) ρ w:=by
  intro a ha;refine wpList_plain rfl fun K hK=> ?_;unfold AdF AdU;rw[ha.eval,hr];refine hK _ _ (h _ ⟨ha.size,?_,ha.get⟩);show _ :: a.defers=_;rw[ha.defers]
theorem BZ{fn:AdH}{R:Adc→AaS→Prop}:∀e ρ a w,e ≠ .normal→Fits n ρ a→Cz P fn R e ρ w→bodyPostD P fn R e a w:=fun e ρ a w he ha h=>by
  cases e with
  | normal=>exact absurd rfl he
  | ret=>
    show Leaves P fn a.tmps R a.defers .returning w;rw[ha.defers];exact h a.tmps ha.get
  | panic ch=>
    show Leaves P fn a.tmps R a.defers (.panicking ch) w;rw[ha.defers];exact h
  | exit _=>exact h.elim
  | goto _=>exact h.elim
  | outgrown=>exact h.elim
theorem Nu{f:AcF}{fn:AdH}{c:Ac7}{args:List AaR}{R:Adc→AaS→Prop}(hf:P.funcs[f]? =some fn)(hb:fn.body=some c)(m:Nat)(hm:fn.ntmps=m)(hn:args.length≤m) 
    (h:∀ρ,Begun args ρ→Ns P m [] c (bodyPostD P fn R) ρ w):Calls P f args.toArray w R:=by
  subst hm;refine calls_of_wp_defers hf hb ?_;have hget:∀t,(args.toArray++AcC (fn.ntmps-args.toArray.size) undef).getD t undef=args.getD t undef:=fun t=>by
    simp only[AbI,AaW,Ae1,Abe,AbT];by_cases ht:t<args.length
    · rw[if_pos ht]
    · rw[if_neg ht,Ab3 (by omega),Acm];split <;> rfl
  refine h (fun t=>args.getD t undef) ⟨fun _=>rfl⟩ _ ⟨?_,rfl,hget⟩;simp;omega
end
section
variable {P : Abo} {n : Nat}
theorem R4{c:Ac7}{QF:BE}{Q:AdA→Act→AaS→Prop}{ρ:Ad}{a:Act}{w:AaS}(h:B0 P n c QF ρ w)(ha:Fits n ρ a)(hq:∀e ρ' a' w',Fits n ρ' a' →QF e ρ' w' →Q e a' w'):c.wp P Q a w:=
  wp_mono (h a ha) fun e a' w' ⟨ρ',hf,hQ⟩=>hq e ρ' a' w' hf hQ
def B6:FrameMode→AaR × FrameMode
  | .panicking ({ v,recovered:=false,goexit:=false } :: older)=>(v, .panicking ({ v,recovered:=true } :: older))
  | u=>(.nilIface,u)
theorem Ox(c₀:Frame)(cs:List Frame)(u:FrameMode)(hu:c₀.mode=u)(K:AaR→List Frame→Prop)(h:K (B6 u).1 ({ c₀ with mode:=(B6 u).2 } :: cs)):
    match recoverD (c₀ :: cs)with
    | some (v,cs')=>K v cs'
    | none=>K .nilIface (c₀ :: cs):=by
  subst hu;obtain⟨cf,ct,ctodo,cd,cm,ck,cr⟩:=c₀
  match cm,h with
  | .run,h=>exact h
  | .returning,h=>exact h
  | .panicking [],h=>exact h
  | .panicking ({ v,recovered:=true,goexit:=g } :: older),h=>exact h
  | .panicking ({ v,recovered:=false,goexit:=true } :: older),h=>exact h
  | .panicking ({ v,recovered:=false,goexit:=false } :: older),h=>exact h
theorem G6{f:AcF}{fn:AdH}{c:Ac7}{args:List AaR}{u:FrameMode}{w:AaS}{R:Adc→AaS→Prop}{id:Nat}{d0 d1:Tmp}{ty0 ty1:AaZ}{p0 p1:String}{af0 af1:Array AbP} 
    (hf:P.funcs[f]? =some fn) (hb:fn.body=some (.seq (.region id #[⟨some d0, .call ⟨.builtin .recover,#[],#[]⟩,ty0,p0,af0,none⟩,⟨some d1, .assign (.tmp d0),ty1,p1,af1,none⟩] false) c)) (m:Nat) (hm:fn.ntmps=m) (hn:args.length≤m) (h0:Ac3 d0 m=true) (h1:Ac3 d1 m=true)
    (h:∀b,Begun args b→B0 P m c (Cz P fn R) (updO (updO b (some d0) (B6 u).1) (some d1) (B6 u).1) w):
    CallsD P f args.toArray u w fun e u' w' =>u' =(B6 u).2∧R e w' :=by
  subst hm;refine callsD_of_wpS hf hb fun c₀ cs hu=> ?_;have hget:∀t,(args.toArray++AcC (fn.ntmps-args.toArray.size) undef).getD t undef=args.getD t undef:=fun t=>by
    simp only[AbI,AaW,Ae1,Abe,AbT];by_cases ht:t<args.length
    · rw[if_pos ht]
    · rw[if_neg ht,Ab3 (by omega),Acm];split <;> rfl
  have hF:Fits fn.ntmps (fun t=>args.getD t undef) { tmps:=args.toArray++AcC (fn.ntmps-args.toArray.size) undef,defers:= [] } :=⟨by simp;omega,rfl,hget⟩
  generalize ({ tmps:=args.toArray++AcC (fn.ntmps-args.toArray.size) undef,defers:= [] } :Act)=a at hF ⊢
  have hd0:∀t,some d0=some t→t<fn.ntmps:=fun t ht=>by cases ht;exact Aa9 h0
  have hd1:∀t,some d1=some t→t<fn.ntmps:=fun t ht=>by cases ht;exact Aa9 h1
  have hF1:=hF.put (some d0) hd0 (B6 u).1;have hF2:=hF1.put (some d1) hd1 (B6 u).1
  apply wpS_seq
  apply wpS_region
  have g:(execOp a.eval (⟨some d0, .call ⟨.builtin .recover,#[],#[]⟩,ty0,p0,af0,none⟩:Abi)).run P w = .ok .recover w:=by
    simp[go_sem]
  have hkey:∀(v:AaR) (cs' :List Frame),v=(B6 u).1→cs' = { c₀ with mode:=(B6 u).2 } :: cs→wpOpsS P #[⟨some d0, .call ⟨.builtin .recover,#[],#[]⟩,ty0,p0,af0,none⟩,⟨some d1, .assign (.tmp d0),ty1,p1,af1,none⟩] (Exit.thenS (c.wpS P (bodyPostS P fn c₀ cs fun e u' w' =>u' =(B6 u).2∧R e w')) (bodyPostS P fn c₀ cs fun e u' w' =>u' =(B6 u).2∧R e w')) [1] (a.put (some d0) v) cs' w:=by
    rintro v cs' rfl rfl;have hv:(a.put (some d0) (B6 u).1).eval (.tmp d0)=(B6 u).1:=by
      rw[hF1.eval];show(bif Adj d0 d0 then _ else _)=_;rw[AeG];rfl
    have i:(execOp (a.put (some d0) (B6 u).1).eval (⟨some d1, .assign (.tmp d0),ty1,p1,af1,none⟩:Abi)).run P w = .ok (.value (B6 u).1) w:=by
      simp[execOp,hv]
    simp only[wpOpsS,AbT,Acr,Adh,Acf,i,AdU,if_true];refine wpS_of_wp (R4 (h _ ⟨fun _=>rfl⟩) hF2 fun e ρ' a' w' hf' hQ=> ?_);cases e with
    | normal=>obtain⟨v,hv,hR⟩:=hQ a'.tmps hf'.get;exact⟨hf'.defers,_,rfl,v,hv,rfl,hR⟩
    | ret=>obtain⟨v,hv,hR⟩:=hQ a'.tmps hf'.get;exact⟨hf'.defers,_,rfl,v,hv,rfl,hR⟩
    | panic ch=>exact⟨hf'.defers,_,rfl,rfl,hQ⟩
    | exit _=>exact hQ.elim
    | goto _=>exact hQ.elim
    | outgrown=>exact hQ.elim
  show wpOpsS P _ _ [0,1] a (c₀ :: cs) w;unfold wpOpsS;simp only[AbT,Adh,Acf,if_true,g];exact Ox c₀ cs u hu (fun v cs' =>wpOpsS P _ _ [1] (a.put (some d0) v) cs' w) (hkey _ _ rfl rfl)
end
section
variable {P : Abo} {K : AaR → AaS → Prop} {ρ : Ad} {w : AaS} {d : Option Tmp} {ty : AaZ} {pos : String} {af : Array AbP} {gd : Option (Nat × Bool)} {t ty2 : AaZ}
theorem ZK{x:Aa5}{u:AaZ}{v:AaR}{fs}(hu:P.underlying u=some (.struct fs))(hx:Aa ρ x = .iface u v)(hk:K (.tuple #[v, .bool true]) w):Yk P K ((execOp (Aa ρ) ⟨d, .typeAssert x t u true,ty,pos,af,gd⟩).run P w):=by
  refine Yk.value (v:= .tuple #[v, .bool true]) (w' :=w) ?_ hk;unfold execOp;simp[Instr.typeAssert,hx,run_underlying hu,AbM]
theorem Z1{x:Aa5}(he:(Aez t .nilIface .nilIface).run P w = .ok true w)(hx:Aa ρ x = .nilIface)(hk:K (.bool false) w):Yk P K ((execOp (Aa ρ) ⟨d, .binOp .neq t x (.const .nilIface) ty2,ty,pos,af,gd⟩).run P w):=by
  have hy:Aa ρ (.const .nilIface) = .nilIface:=rfl;refine Yk.value (v:= .bool false) (w' :=w) ?_ hk;unfold execOp;simp only[hx,hy];simp[eqGuard,Abt,he,AbM]
theorem Z2{x:Aa5}{u:AaZ}{v:AaR}(he:(Aez t (.iface u v) .nilIface).run P w = .ok false w)(hx:Aa ρ x = .iface u v)(hk:K (.bool true) w):Yk P K ((execOp (Aa ρ) ⟨d, .binOp .neq t x (.const .nilIface) ty2,ty,pos,af,gd⟩).run P w):=by
  have hy:Aa ρ (.const .nilIface) = .nilIface:=rfl;refine Yk.value (v:= .bool true) (w' :=w) ?_ hk;unfold execOp;simp only[hx,hy];simp[eqGuard,Abt,he,AbM]
theorem Vo{x:Aa5}{fv:Fn}{first cap:Array AaR}(hx:Aa ρ x = .func fv first cap):(execOp (Aa ρ) ⟨none, .defer ⟨.value x,#[],#[]⟩,ty,pos,af,none⟩).run P w = .ok (.defer ⟨.fn fv cap,first⟩) w:=by
  unfold execOp;simp[resolve,hx,AdG]
theorem Yl{p:Tmp}{ty:AaZ}{g:Nat}{t:AaZ}{v:AaR}{fr:Nat × Nat}{d:TypeDesc}(hp:ρ p = .pointer (some ⟨g,0,none⟩))(hg:w.heap[g]? =some (.cells ([v]).toArray t fr)) 
    (hu:P.underlying ty=some d) (hd:(match d with | .struct _ | .array _ _=>false | _=>true)=true):ResF P ρ w (.cell p ty) v:=by
  refine⟨_,hp,?_⟩;have hc:w.cell? ⟨g,0,none⟩=some v:=cellAt hg rfl;have hagg:(isAgg ty).run P w = .ok false w:=by
    unfold isAgg;cases d <;> first | (simp at hd;done) | simp[run_underlying hu,AbM]
  simp[loadVar,hagg,hc]
theorem KF{fn:AdH}{tmps:Array AaR}{R:Adc→AaS→Prop}(rs:List ResultVar)(hrs:fn.results=rs.toArray)(vs:List AaR)(v:AaR)(hv:GU vs=v)(ht:∀t,tmps.getD t undef=ρ t)(h:F3 P ρ w rs vs)(hR:R (.returned v) w):Leaves P fn tmps R [] .returning w:=
  ⟨_,He hrs ht h,by rw[hv];exact hR⟩
end
section
variable {P : Abo} {n : Nat} {ρ : Ad} {w : AaS} {Q : BE}
theorem Nv{l r:List Abi}(kS k0:Nat)(S:AaS→AaS→Prop)(Φs:List Bp){id:Nat}(hm:P.follows .mixedOrders=true)(ds:List Tmp)(hg:Cy l n=true)(hn:My l k0=true)(c:Afk Φs.length k0=true)(hds:slotsW l=ds)(hr:(l.drop k0)=r)(hlt:Ac3 k0 l.length=true) 
    (f:Ac3 kS k0=true) (hgS:(l[kS]?.bind (·.guard))=none) (hst:AllStab (fun a b=>a=b∨S w.drew b) Φs)
    (hs:StepsFC P l k0 (fun m w1=>bif Adj m kS then w1=w.drew else(w1=w.drew∨S w.drew w1)) (fun m a b=>bif Adj m kS then S w.drew b else a=b) (AT Φs) ρ 0 l)
    (hQ:∀(ρ' :Ad) w1,S w.drew w1→EndF ds ρ ρ' →Be l (fun _=> []) (AT Φs) ρ' w1 ds→CB P l.toArray n Q r ρ' w1):B0 P n (.region id l.toArray true) Q ρ w:=by
  have bf:∀ {a b:Nat},a≠b→Adj a b=false:=fun h=>by rw[←AeV,Nat.beq_eq];exact h
  refine Mn k0 (fun _=> []) _ _ (fun listed w1=>On listed kS→S w.drew w1) Φs hm ds hg hn c (by unfold CY;simp) hds hr (fun i m _ _ hne' hbit a b hc hr=> ?_) (fun i j _ _ _ _ _ v a b h hr=> ?_) (fun i listed a b _ hsz hno hcl he hr=> ?_) (fun h=> ?_) (fun i o a ho hgo=> ?_) (fun m _=> ?_) hs hlt (fun ρ' w1 listed hon he hc h2 h3=> ?_)
  · by_cases hmS:m=kS
    · subst hmS;rw[AeG]at hc ⊢;rw[bf hne']at hr;simp only[cond_true,cond_false]at hc hr ⊢;rw[←hr];exact hc
    · rw[bf hmS]at hc ⊢;simp only[cond_false]at hc ⊢;by_cases hiS:i=kS
      · subst hiS;rw[AeG]at hr;exact .inr hr
      · rw[bf hiS]at hr;simp only[cond_false]at hr;rw[←hr];exact hc
  · refine hst.get Φs j v a b h ?_;by_cases hiS:i=kS
    · subst hiS;rw[AeG]at hr;exact .inr hr
    · rw[bf hiS]at hr;exact .inl hr
  · intro hon;by_cases hiS:i=kS
    · subst hiS;rw[AeG]at hr;exact hr
    · have hon' :On listed kS:=by
        rcases(on_set (by omega)).1 hon with h1 | h1
        · exact absurd h1.symm hiS
        · exact h1
      rw[bf hiS]at hr;simp only[cond_false]at hr;rw[←hr];exact he hon'
  · exact absurd h YB
  · have hiS:i≠kS:=fun e=>by rw[e]at ho;rw[ho]at hgS;simp only[Ac6]at hgS;rw[hgS]at hgo;cases hgo
    rw[bf hiS];rfl
  · by_cases hmS:m=kS
    · subst hmS;rw[AeG];rfl
    · rw[bf hmS];exact .inl rfl
  · exact hQ ρ' w1 (he ((hon kS).2 (Aa9 f))) h2 h3
end
theorem Vp(w:AaS):(Aez 20 .nilIface .nilIface).run AaU w = .ok true w:=by kernel_rfl
theorem Vq(u:AaZ)(v:AaR)(w:AaS):(Aez 20 (.iface u v) .nilIface).run AaU w = .ok false w:=by kernel_rfl
theorem Oy:(Tryz.prog.info? 143).map (·.size)=some 1:=by kernel_rfl
theorem Qh{d:Option Tmp}{ty:AaZ}{pos:String}{af:Array AbP}{gd:Option (Nat × Bool)}(σ:Aa5→AaR)(w:AaS):(execOp σ ⟨d, .alloc 143,ty,pos,af,gd⟩).run AaU w = .ok (.value (PQ w.heap.size 0)) (w.alloc (.cells ([NI 0]).toArray 143)):=by kernel_rfl
theorem Nw:A2 AaU 143 0 0:=fun b o w=>by simp[go_sem]
theorem R5:Tryz.prog.underlying 29=some (.int .i64):=by kernel_rfl
theorem Qi:(Tryz.prog.info? 89).map (·.size)=some 1:=by kernel_rfl
theorem Qj:(Tryz.prog.info? 29).map (·.size)=some 1:=by kernel_rfl
theorem Qk(b2 b3:Nat)(w:AaS):CallsD AaU 78 #[PQ b2 0,PQ b3 0] (.returning) w fun e u' w' =>u' =(B6 (.returning)).2∧(e = .returned (.tuple #[])∧Ext w w'):=by
 have hE:=Ext.refl w;refine G6 (u:= .returning) (args:= [PQ b2 0,PQ b3 0]) Tryz.func78 rfl 18 rfl (Aa9 rfl) rfl rfl (R:=fun e w' =>e = .returned (.tuple #[])∧Ext w w') ?_;intro ρz hb;have b:(updO (updO ρz (some 5) (B6 (.returning)).1) (some 2) (B6 (.returning)).1) 0=(PQ b2 0:AaR):=hb.get 0;have c:(updO (updO ρz (some 5) (B6 (.returning)).1) (some 2) (B6 (.returning)).1) 1=(PQ b3 0:AaR):=hb.get 1;have a:(updO (updO ρz (some 5) (B6 (.returning)).1) (some 2) (B6 (.returning)).1) 2=(.nilIface:AaR):=rfl
 generalize updO (updO ρz (some 5) (B6 (.returning)).1) (some 2) (B6 (.returning)).1=g at b c a ⊢
 clear hb;refine sk fun h f=>(wt (oM rfl (oS rfl (Z1 (Vp _) a (oZ (tN (f _ _ (CJ (vr (.bool (false)) rfl) (DD (Lt (fn:=Tryz.f78) [] rfl [] (.tuple #[]) rfl trivial ?_))))))))));exact⟨rfl,hE⟩

theorem Ql(w0:AaS)(b2 b3 c:Nat)(v2 v3:AaR)(w:AaS)(h0:Ext w0 w)(l2:w0.heap.size≤b2)(l3:w0.heap.size≤b3)(hne:b2≠b3)(h2:w.heap[b2]? =some (.cells ([v2]).toArray 89 (0,0)))(h3:w.heap[b3]? =some (.cells ([v3]).toArray 29 (0,0))):CallsD AaU 78 #[PQ b2 0,PQ b3 0] (.panicking [CO c]) w fun e u' w' =>u' =(B6 (.panicking [CO c])).2∧(e = .returned (.tuple #[])∧w'.heap[b2]? =some (.cells ([.pointer none]).toArray 89 (0,0))∧w'.heap[b3]? =some (.cells ([NI c]).toArray 29 (0,0))∧Ext w0 w'):=by
 have hl2_:=(bl h2);have hl3_:=(bl h3);refine G6 (u:= .panicking [CO c]) (args:= [PQ b2 0,PQ b3 0]) Tryz.func78 rfl 18 rfl (Aa9 rfl) rfl rfl (R:=fun e w' =>e = .returned (.tuple #[])∧w'.heap[b2]? =some (.cells ([.pointer none]).toArray 89 (0,0))∧w'.heap[b3]? =some (.cells ([NI c]).toArray 29 (0,0))∧Ext w0 w') ?_;intro ρz hb;have m:(updO (updO ρz (some 5) (B6 (.panicking [CO c])).1) (some 2) (B6 (.panicking [CO c])).1) 0=(PQ b2 0:AaR):=hb.get 0;have n:(updO (updO ρz (some 5) (B6 (.panicking [CO c])).1) (some 2) (B6 (.panicking [CO c])).1) 1=(PQ b3 0:AaR):=hb.get 1;have g:(updO (updO ρz (some 5) (B6 (.panicking [CO c])).1) (some 2) (B6 (.panicking [CO c])).1) 2=((.iface 143 (.agg ([NI c]).toArray)):AaR):=rfl
 generalize updO (updO ρz (some 5) (B6 (.panicking [CO c])).1) (some 2) (B6 (.panicking [CO c])).1=ap at m n g ⊢
 clear hb;refine sk fun K1 ac=>(wt (oM rfl (oS rfl (Z2 (Vq _ _ _) g (oZ (tN (ac _ _ (EH (vr (.bool (true)) rfl) (sk fun K2 ad=>(wt (oM rfl (oS rfl (ZK (Rp).choose_spec g (oM rfl (oS rfl (Yk.extract (vs:= [.agg ([NI c]:List AaR).toArray, .bool (true)]) (vr (.tuple #[.agg ([NI c]:List AaR).toArray, .bool (true)]) rfl) (show _=some (.agg ([NI c]:List AaR).toArray:AaR)from rfl) (oS rfl (Yk.extract (vs:= [.agg ([NI c]:List AaR).toArray, .bool (true)]) (vr (.tuple #[.agg ([NI c]:List AaR).toArray, .bool (true)]) rfl) (show _=some (.bool (true):AaR)from rfl) (oS rfl (Yk.alloc (cs:=([NI 0]).toArray) Qh fun j w4 s t o au=> ?_))))))))))))))))))));have f:=Ext.refl w;have av:=h0;have af:=h0.size;have aw:=Ar (bl h2) s;have ax:=Ar (bl h3) s;have h0:=h0.trans o;have h2:=eb o h2;have h3:=eb o h3;have f:=f.trans o;have b:=t;clear t;have ay:j<w4.heap.size:=by omega
 refine oS rfl (XN (vr (PQ j 0) rfl) (vr (.agg ([NI c]:List AaR).toArray) rfl) b (rfl) ((show(Tryz.prog.info? 143).map (·.size)=some 1 from Oy)) ((by intro u hu;simp only[AbF,AcN,or_false]at hu;subst hu;rfl)) fun a x p az=> ?_);have h0:=Ab h0 p (AaV af (by omega));have h2:=kb p h2 (by omega);have h3:=kb p h3 (by omega);have f:=Ab f p (AaV (AaX _) (by omega));clear b;have b:=x;clear x;have a0:=bl b;refine oA rfl (oZ (tN (ad _ _ (sk fun a1 ag=>(sk fun a2 ah=>(wt (oM rfl (oS rfl (Ym (vr (.bool (true)) rfl) (oZ (tN (ah _ _ (CJ (vr (.bool (false)) rfl) (DD (tN (ag _ _ ?_))))))))))))))));refine Nv 2 3 (fun(a_ b_:AaS)=>b_.heap[b2]? =some (.cells ([.pointer none]).toArray 89 (0,0))∧a_.grownBy b_ (some b2)∧b_.heap.size=a_.heap.size) [Is (PQ j 0),Is (NI c),(fun _ _=>True)] (by kernel_rfl) [16,17] (by kernel_rfl) (by kernel_rfl) (by kernel_rfl) (by kernel_rfl) rfl rfl rfl rfl (Ls ⟨Stab.any,trivial⟩) ?ai ?hQ1005
 case ai=>
  refine⟨?_,?_,?_,?_,trivial⟩
  ·refine MP (Aj rfl fun σ w1 hC h=> ?_);have hq:w1=AeK a∨(fun(a_ b_:AaS)=>b_.heap[b2]? =some (.cells ([.pointer none]).toArray 89 (0,0))∧a_.grownBy b_ (some b2)∧b_.heap.size=a_.heap.size) (AeK a) w1:=hC;have hC:BX a.heap.size (some b2) a w1:=by rcases hq with hq | hq;(rw[hq];exact Yi ((AbJ _ _).drew) (AaX _));exact(Yi ((AbJ _ _).drew) (AaX _)).trans (Yj hq.2.1 (AaX _) (fun k hk=> .inl hk))
   have e3:σ 3=PQ j 0:=(AI (h 3 (by decide))).trans rfl;exact Yk.fieldAt Nw e3 ⟨rfl,rfl⟩
  ·refine MP (Aj rfl fun σ w1 hC h=> ?_);have hq:w1=AeK a∨(fun(a_ b_:AaS)=>b_.heap[b2]? =some (.cells ([.pointer none]).toArray 89 (0,0))∧a_.grownBy b_ (some b2)∧b_.heap.size=a_.heap.size) (AeK a) w1:=hC;have hC:BX a.heap.size (some b2) a w1:=by rcases hq with hq | hq;(rw[hq];exact Yi ((AbJ _ _).drew) (AaX _));exact(Yi ((AbJ _ _).drew) (AaX _)).trans (Yj hq.2.1 (AaX _) (fun k hk=> .inl hk))
   have ak:=AI (h 16 (by decide));exact XJ R5 rfl ak (cellAt (BX.blk hC b (Am (by omega))) (show _=some (NI c:AaR)from rfl)) ⟨rfl,rfl⟩
  ·refine MP (Aj rfl fun σ w1 hC h=> ?_);have hq:w1=AeK a:=hC;subst hq;have hC:BX a.heap.size (some b2) a (AeK a):=Yi ((AbJ _ _).drew) (AaX _);have e0:=(AI (h 0 (by decide))).trans m;exact XY (i:=0) (v:= .pointer none) e0 (vr (.pointer none) rfl) (eb ((AbJ _ _).drew) h2) (Aa9 rfl) Qi rfl rfl fun w2 h1 h2 h3=>⟨⟨h1,h2,h3⟩,trivial⟩
  ·exact trivial
 intro am a3 an he hf;obtain⟨-,k17,-⟩:=hf;obtain⟨m,n,g,T3,T4,T7,a7,-⟩:=he.hold [(0,_),(1,_),(2,_),(3,PQ j 0),(4, .bool (true)),(7, .bool (true)),(14, .bool (false))] ⟨m,n,g,rfl,rfl,rfl,rfl,trivial⟩ rfl;clear he;have l:Ext a (AeK a):=(AbJ _ _).drew;obtain⟨y,q,a8⟩:=an;have h0:=h0.trans l;have h2:=eb l h2;have h3:=eb l h3;have f:=f.trans l;have b:=eb l b;have h0:=Ab h0 q (AaV (AaX _) (by omega));have h3:=kb q h3 (by omega);clear f;have b:=kb q b (by omega);clear h2;have h2:=y;clear y;have ao:am 17=NI c:=k17;clear k17;refine oS rfl (XY (i:=0) (v:=NI c) n ao h3 (Aa9 rfl) Qj rfl rfl fun a9 z r ba=> ?_);have h0:=Ab h0 r (AaV (AaX _) (by omega));have b:=kb r b (by omega);have h2:=kb r h2 (by omega);clear h3;have h3:=z;clear z;have bb:=bl h3;refine oZ (Lt (fn:=Tryz.f78) [] rfl [] (.tuple #[]) rfl trivial ?_);exact⟨rfl,h2,h3,h0⟩
theorem Reads.keepN{w w' :AaS}{b z n:Nat}{v:AaR}{xs:List AaR}(h:Reads w z v n xs)(hb:∀u∈xs,∃x,u=B8 x)(hm:D7 w b)(hg:w.grownBy w' (some b)):Reads w' z v n xs:=by
  obtain⟨h1,ao,cap,rfl,h2,h3,h4,h5⟩:=h;refine⟨h1,ao,cap,rfl,h2,h3,h4,fun a ha j u hu=> ?_⟩;have hc:=h5 a ha j u hu;have hlt:=Ach w _ hc;have hsp:=AdI hc
  generalize a.add j=q at hc hlt hsp ⊢
  obtain⟨q1,q2,q3⟩:=q;simp only at hsp hlt;subst hsp;by_cases e:q1=b
  · exfalso;obtain⟨x,rfl⟩:=hb u (Ab0 hu);rw[e]at hc;exact hm _ _ hc
  · have:=hg.block q1 hlt (fun e' =>e (AbB e'));unfold Ade at hc ⊢;rw[this];exact hc
theorem RG.keepN{w w' :AaS}{b:Nat}{v:AaR}{l:List Bs}(h:RG 32 AaT w v l)(hm:D7 w b)(hg:w.grownBy w' (some b)):RG 32 AaT w' v l:=
  ⟨h.1,h.2.keepN (fun u hu=>by
    obtain⟨x,-,hx⟩:=AfR.1 hu;obtain⟨c,-,rfl⟩:=AbD.1 hx;exact⟨c,rfl⟩) hm hg⟩
theorem Tr{w:AaS}{g:Nat}{v:AaR}{T:AaZ}{fr:Nat × Nat}(hb:w.heap[g]? =some (.cells ([v]).toArray T fr))(hv:∀x,v≠B8 x):D7 w g:=fun j x hc=>by
  unfold Ade at hc;rw[hb]at hc
  match j,hc with
  | 0,hc=>simp at hc;exact hv x hc
  | j+1,hc=>simp at hc
def BW(b:Bs):Except Nat AZ:=if 1048576<b.length then .error 2 else if b.length<36 then .error 6 else if Sha.sum (b.take (b.length-32))=b.drop (b.length-32)then Cu b else .error 18
def PackAt(w:AaS)(v:AaR)(p:AZ):Prop:=∃g vi bo O,v=PQ g 0∧p.2=(fun k=>(O k).map Abq)∧w.heap[g]? =some (.cells ([vi, .map (some bo)]).toArray 163 (0,0))∧RG 32 AaT w vi p.1∧MapF rk Ch (fun id:List UInt8=>id.length=32) w bo O∧OOk w O
def XD(w:AaS)(v:AaR):Except Nat AZ→Nat→Prop
 | .ok p,c=>c=0∧PackAt w v p
 | .error e,c=>c=e∧v = .pointer none
theorem PackAt.keep{w w' :AaS}{v:AaR}{p:AZ}(h:PackAt w v p)(k:Ext w w'):PackAt w' v p:=by
 obtain⟨g,vi,bo,O,h1,h2,h3,h4,h5,h6⟩:=h;exact⟨g,vi,bo,O,h1,h2,eb k h3,h4.keep k,h5.keep k,h6.keep k⟩
def PackNew(n:Nat)(w:AaS)(v:AaR)(p:AZ):Prop:=∃g vi bo O,v=PQ g 0∧p.2=(fun k=>(O k).map Abq)∧w.heap[g]? =some (.cells ([vi, .map (some bo)]).toArray 163 (0,0))∧RG 32 AaT w vi p.1∧MapF rk Ch (fun id:List UInt8=>id.length=32) w bo O∧OOk w O∧n≤g∧n≤bo∧NewV n vi∧NewM n O
theorem PackNew.keep{n:Nat}{w w' :AaS}{v:AaR}{p:AZ}(h:PackNew n w v p)(k:Ext w w'):PackNew n w' v p:=by
 obtain⟨g,vi,bo,O,h1,h2,h3,h4,h5,h6,h7⟩:=h;exact⟨g,vi,bo,O,h1,h2,eb k h3,h4.keep k,h5.keep k,h6.keep k,h7⟩
def OpenNew(n:Nat)(w:AaS)(v:AaR):Except Nat AZ→Nat→Prop
 | .ok p,c=>c=0∧PackNew n w v p
 | .error e,c=>c=e∧v = .pointer none
theorem PackNew.keepN{n:Nat}{w w' :AaS}{v c:AaR}{p:AZ}{b:Nat}{T:AaZ}{fr:Nat × Nat}(h:PackNew n w v p)(hb:w.heap[b]? =some (.cells ([c]).toArray T fr))(hc:∀x,c≠B8 x)(hg:w.grownBy w' (some b)):PackNew n w' v p:=by
 obtain⟨g,vi,bo,O,h1,h2,h3,h4,h5,h6,h7⟩:=h;have hm:=Tr hb hc;have a:g≠b:=fun e=>by rw[e,hb]at h3;simp at h3
 have f:bo≠b:=fun e=>by obtain⟨es,cl,h,-⟩:=h5;rw[e,hb]at h;cases h
 exact⟨g,vi,bo,O,h1,h2,(hg.block g (bl h3) (fun e=>a (AbB e))).trans h3,h4.keepN hm hg,h5.other hg (fun e=>f (AbB e).symm),fun id x hx=>(h6 id x hx).keepN hm hg,h7⟩
theorem R6{d:Option Tmp}{ty:AaZ}{pos:String}{af:Array AbP}{gd:Option (Nat × Bool)}(σ:Aa5→AaR)(w:AaS):(execOp σ ⟨d, .alloc 89,ty,pos,af,gd⟩).run AaU w = .ok (.value (PQ w.heap.size 0)) (w.alloc (.cells ([.pointer none]).toArray 89)):=by kernel_rfl
theorem R7{d:Option Tmp}{ty:AaZ}{pos:String}{af:Array AbP}{gd:Option (Nat × Bool)}(σ:Aa5→AaR)(w:AaS):(execOp σ ⟨d, .alloc 29,ty,pos,af,gd⟩).run AaU w = .ok (.value (PQ w.heap.size 0)) (w.alloc (.cells ([NI 0]).toArray 29)):=by kernel_rfl
theorem Fw:Tryz.prog.underlying 89=some (.pointer 163):=by kernel_rfl
theorem R8:Plain AaU 79:=fun _ _=>by kernel_rfl
theorem Nx(w:AaS)(hG:Laid w)(v:AaR)(b:Bs)(hr:RB w v b):
  Calls AaU 43 #[v] w fun e w' =>∃x,e = .returned x∧∃p c,x = .tuple #[p,NI c]∧OpenNew w.heap.size w' p (BW b) c∧Ext w w' :=by
 refine Nu (args:= [v]) Tryz.func43 rfl 30 rfl (Aa9 rfl) ?_;intro b6 hb;have o:b6 0=(v:AaR):=hb.get 0;clear hb;have hE:=Ext.refl w;refine Cx _ BZ fun K1 ay=>(wt (oS rfl (Yk.alloc (cs:=([.pointer none]).toArray) R6 fun u w3 di bh b7 dj=> ?_)));have hE:=hE.trans b7;have g:=bh;clear bh;have dk:u<w3.heap.size:=by omega
 refine oS rfl (Yk.alloc (cs:=([NI 0]).toArray) R7 fun y b8 b9 bi a3 dl=> ?_);have s:=Ext.refl w3;have dm:=hE;have a0:=hE.size;have dn:=Ar (bl g) b9;have hE:=hE.trans a3;have g:=eb a3 g;have s:=s.trans a3;have j:=bi;clear bi;have dp:y<b8.heap.size:=by omega
 refine GV [(0,v),(2,PQ u 0),(3,PQ y 0)] ⟨o,rfl,rfl,trivial⟩ fun dq ⟨o,q,r,_⟩=> ?_;by_cases q1:1048576<b.length
 ·have hP:BW b = .error 2:=if_pos q1;refine tN (ay _ _ (Cx _ BZ fun dr ds=>(sk fun dt ca=>(wt (oM rfl (oS rfl (XS F5 (XP (hr.keep hE) o) (oS rfl (XK (a:=(b.length:Nat)) (b:=(1048576:Nat)) rfl rfl (Bj _ _ _ _) (GV [(0,v),(2,PQ u 0),(3,PQ y 0),(7, .bool (true))] ⟨o,q,r,(congrArg AbA (decide_eq_true (q1))),trivial⟩ fun du ⟨o,q,r,t,_⟩=>(tN (ca _ _ (EH t (sk fun dv cb=>(wt (oS rfl (XY (i:=0) (v:= .pointer none) q (vr (.pointer none) rfl) g (Aa9 rfl) Qi rfl rfl fun dw bj bk dx=> ?_)))))))))))))))));have hE:=Ab hE bk (AaV (AaX _) (by omega));clear s;have j:=kb bk j (by omega);clear g;have g:=bj;clear bj;have dy:=bl g;refine oS rfl (XY (i:=0) (v:=NI 2) r (vr (NI 2) rfl) j (Aa9 rfl) Qj rfl rfl fun dz bm bn d0=> ?_);have hE:=Ab hE bn (AaV a0 (by omega));have g:=kb bn g (by omega);clear j;have j:=bm;clear bm;have d1:=bl j;refine GV [(0,v),(2,PQ u 0),(3,PQ y 0),(7, .bool (true))] ⟨o,q,r,t,trivial⟩ fun d2 ⟨o,q,r,t,_⟩=>(tN (cb _ _ (IT (H9 (CK (fn:=Tryz.f43) _ rfl [.pointer none,NI 2] (.tuple #[.pointer none,NI 2]) rfl ⟨Yl q g Fw rfl,Yl r j R5 rfl,trivial⟩ ?_)))));exact⟨_,rfl,_,_,rfl,by rw[hP];exact⟨rfl,rfl⟩,hE⟩
 by_cases q2:b.length<36
 ·have hP:BW b = .error 6:=(if_neg q1).trans (if_pos q2);refine tN (ay _ _ (Cx _ BZ fun d3 cc=>(sk fun d4 cd=>(wt (oM rfl (oS rfl (XS F5 (XP (hr.keep hE) o) (oS rfl (XK (a:=(b.length:Nat)) (b:=(1048576:Nat)) rfl rfl (Bj _ _ _ _) (GV [(0,v),(2,PQ u 0),(3,PQ y 0),(7, .bool (false))] ⟨o,q,r,(congrArg AbA (decide_eq_false (q1))),trivial⟩ fun d5 ⟨o,q,r,t,_⟩=>(tN (cd _ _ (CJ t (DD (tN (cc _ _ (Cx _ BZ fun d6 d7=>(sk fun d8 ce=>(wt (oM rfl ?_))))))))))))))))))));refine oS rfl (XS F5 (XP (hr.keep hE) o) (oS rfl (XK (a:=(b.length:Nat)) (b:=(36:Nat)) rfl rfl (AL _ _ _ _) (GV [(0,v),(2,PQ u 0),(3,PQ y 0),(7, .bool (false)),(10, .bool (true))] ⟨o,q,r,t,(congrArg AbA (decide_eq_true (q2))),trivial⟩ fun d9 ⟨o,q,r,t,z,_⟩=>(tN (ce _ _ (EH z (sk fun ea cf=>(wt (oS rfl (XY (i:=0) (v:= .pointer none) q (vr (.pointer none) rfl) g (Aa9 rfl) Qi rfl rfl fun ec bp bq ed=> ?_)))))))))));have hE:=Ab hE bq (AaV (AaX _) (by omega));clear s;have j:=kb bq j (by omega);clear g;have g:=bp;clear bp;have ee:=bl g;refine oS rfl (XY (i:=0) (v:=NI 6) r (vr (NI 6) rfl) j (Aa9 rfl) Qj rfl rfl fun ef br bs eg=> ?_);have hE:=Ab hE bs (AaV a0 (by omega));have g:=kb bs g (by omega);clear j;have j:=br;clear br;have eh:=bl j;refine GV [(0,v),(2,PQ u 0),(3,PQ y 0),(7, .bool (false)),(10, .bool (true))] ⟨o,q,r,t,z,trivial⟩ fun ei ⟨o,q,r,t,z,_⟩=>(tN (cf _ _ (IT (H9 (CK (fn:=Tryz.f43) _ rfl [.pointer none,NI 6] (.tuple #[.pointer none,NI 6]) rfl ⟨Yl q g Fw rfl,Yl r j R5 rfl,trivial⟩ ?_)))));exact⟨_,rfl,_,_,rfl,by rw[hP];exact⟨rfl,rfl⟩,hE⟩
 by_cases q3:Sha.sum (b.take (b.length-32))=b.drop (b.length-32)
 ·have hP:BW b=Cu b:=(if_neg q1).trans ((if_neg q2).trans (if_pos q3));refine tN (ay _ _ (Cx _ BZ fun ej cg=>(sk fun el ci=>(wt (oM rfl (oS rfl (XS F5 (XP (hr.keep hE) o) (oS rfl (XK (a:=(b.length:Nat)) (b:=(1048576:Nat)) rfl rfl (Bj _ _ _ _) (GV [(0,v),(2,PQ u 0),(3,PQ y 0),(7, .bool (false))] ⟨o,q,r,(congrArg AbA (decide_eq_false (q1))),trivial⟩ fun em ⟨o,q,r,t,_⟩=>(tN (ci _ _ (CJ t (DD (tN (cg _ _ (Cx _ BZ fun en cj=>(sk fun eo ck=>(wt (oM rfl ?_))))))))))))))))))));refine oS rfl (XS F5 (XP (hr.keep hE) o) (oS rfl (XK (a:=(b.length:Nat)) (b:=(36:Nat)) rfl rfl (AL _ _ _ _) (GV [(0,v),(2,PQ u 0),(3,PQ y 0),(7, .bool (false)),(10, .bool (false))] ⟨o,q,r,t,(congrArg AbA (decide_eq_false (q2))),trivial⟩ fun ep ⟨o,q,r,t,z,_⟩=>(tN (ck _ _ (CJ z (DD (tN (cj _ _ (Cx _ BZ fun eq cl=>(wt (oM rfl (oM rfl (oS rfl (XS F5 (XP (hr.keep hE) o) (oS rfl (XL (xv:=NI b.length) (yv:=NI 32) rfl rfl rfl (BJ _ _ _ (by omega) (by omega)) (oS rfl (Yv (xs:=b) (n:=(b.length)-(32)) F5 PG o (hr.keep hE) (vr (NI ((b.length)-(32))) rfl) (by omega) fun cm an ha65=>(oS rfl (Yu F8 (XP an (vr cm rfl)) fun bt er a4 ao=> ?_))))))))))))))))))))));have hE:=hE.trans ao;have g:=eb ao g;have s:=s.trans ao;have j:=eb ao j;have an:=an.keep ao;refine oS rfl (XQ JG (vr bt rfl) ((FY _ (hG.keep hE) bt (b.take ((b.length)-(32))) a4 (by simp only[Abg];omega)).mono ?_));rintro e cn ⟨rfl,ah⟩;refine⟨_,rfl,?_⟩;have hE:=hE.trans ah;have g:=eb ah g;have s:=s.trans ah;have j:=eb ah j;have an:=an.keep ah;have a4:=a4.keep ah;refine oS rfl (Yk.alloc (cs:=(AaT (Aa4 32 0)).toArray) Tf fun ai co bu bv ap es=> ?_);have ad:=Ext.refl cn;have et:=hE;have eu:=s;have cp:=hE.size;have cq:=s.size;have ew:=Ar (bl g) bu;have ex:=Ar (bl j) bu;have hE:=hE.trans ap;have g:=eb ap g;have s:=s.trans ap;have j:=eb ap j;have ad:=ad.trans ap;have aa:=bv;clear bv;have ey:ai<co.heap.size:=by omega
  refine oS rfl (XN (vr (PQ ai 0) rfl) (vr (AB (Sha.sum (b.take ((b.length)-(32))))) rfl) aa (by exact Bv (Sha.sum_length _) Abc) (by exact Ac (Sha.sum_length _)) (Af _) fun ez bw aq e1=> ?_);have hE:=Ab hE aq (AaV cp (by omega));have g:=kb aq g (by omega);have s:=Ab s aq (AaV cq (by omega));have j:=kb aq j (by omega);have ad:=Ab ad aq (AaV (AaX _) (by omega));clear aa;have aa:=bw;clear bw;have e2:=bl aa;refine GV [(0,v),(2,PQ u 0),(3,PQ y 0),(4,PQ ai 0),(7, .bool (false)),(10, .bool (false))] ⟨o,q,r,rfl,t,z,trivial⟩ fun e3 ⟨o,q,r,T4,t,z,_⟩=>(tN (cl _ _ (Cx _ BZ fun e5 cr=>(sk fun e6 ct=> ?_))));refine Hd [Is (.slice (some ⟨ai,0,none⟩) 32 32),Is (St ((Sha.sum (b.take ((b.length)-(32)))))),Is (v),Is (v),Is (NI b.length),Is (NI ((b.length)-(32))),fun x w' =>RB w' x (b.drop ((b.length)-(32))),Is (St (b.drop ((b.length)-(32)))),Is (.bool (false))] (by kernel_rfl) [18,19,20,21,22,23,24,25,26] (by kernel_rfl) (by kernel_rfl) (Xq ⟨(fun _ _ _ h k=>RB.keep h k),(Ls trivial)⟩) ?cu ?hQ1006
  case cu=>
   refine⟨?_,?_,?_,?_,?_,?_,?_,?_,?_,trivial⟩
   ·refine Aj rfl fun σ w1 hC h=> ?_;have e4:=(AI (h 4 (by decide))).trans T4;exact Yt UY PG e4 ⟨Ext.refl _,rfl⟩
   ·refine Aj rfl fun σ w1 hC h=> ?_;have a6:=AI (h 18 (by decide));exact Yh F5 u5 O7 (XP (YF (eb hC aa) (Sha.sum_length _) (by decide)) a6) ⟨Ext.refl _,rfl⟩
   ·refine Aj rfl fun σ w1 hC h=> ?_;have e0:=(AI (h 0 (by decide))).trans o;exact Yk.move e0 ⟨Ext.refl _,rfl⟩
   ·refine Aj rfl fun σ w1 hC h=> ?_;have e0:=(AI (h 0 (by decide))).trans o;exact Yk.move e0 ⟨Ext.refl _,rfl⟩
   ·refine Aj rfl fun σ w1 hC h=> ?_;have a7:=AI (h 21 (by decide));exact XS F5 (XP (hr.keep (hE.trans hC)) a7) ⟨Ext.refl _,rfl⟩
   ·refine Aj rfl fun σ w1 hC h=> ?_;have a8:=AI (h 22 (by decide));exact XL (xv:=NI b.length) (yv:=NI 32) a8 rfl rfl (BJ _ _ _ (by omega) (by omega)) ⟨Ext.refl _,rfl⟩
   ·refine Aj rfl fun σ w1 hC h=> ?_;have a9:=AI (h 20 (by decide));have ba:=AI (h 23 (by decide));exact Yg (xs:=b) (l:=(b.length)-(32)) F5 PG rfl (XP (hr.keep (hE.trans hC)) a9) ba (by omega) fun v hr _=>⟨Ext.refl _,hr⟩
   ·refine Aj rfl fun σ w1 hC h=> ?_;have bb:(fun x w' =>RB w' x (b.drop ((b.length)-(32)))) (σ 24) w1:=h 24 (by decide);exact Yh F5 u5 O7 bb ⟨Ext.refl _,rfl⟩
   ·refine Aj rfl fun σ w1 hC h=> ?_;have bc:=AI (h 19 (by decide));have bd:=AI (h 25 (by decide));exact YE (l:=(Sha.sum (b.take ((b.length)-(32))))) (m:=b.drop ((b.length)-(32))) (.inr rfl) bc bd (decide ((Sha.sum (b.take ((b.length)-(32))))≠(b.drop ((b.length)-(32)):List UInt8))) rfl ⟨Ext.refl _,(congrArg AbA (decide_eq_false (fun h=>h q3)))⟩
  intro cv e7 aj he hf;obtain⟨-,-,-,-,-,-,-,-,k26,-⟩:=hf;obtain⟨o,q,r,T4,t,z,-⟩:=he.hold [(0,_),(2,_),(3,_),(4,_),(7,_),(10,_)] ⟨o,q,r,T4,t,z,trivial⟩ rfl;clear he;have hE:=hE.trans aj;have g:=eb aj g;have s:=s.trans aj;have j:=eb aj j;have ad:=ad.trans aj;have aa:=eb aj aa;have ae:cv 26 = .bool (false):=k26;clear k26;refine tN (ct _ _ (CJ ae (DD (tN (cr _ _ (Iy (GA rfl (Ys (vs:= #[PQ u 0,PQ y 0]) (by simp only[Abx,Abv,AbG];exact congrArg Acn (FI q r)) (Qg (vr (.func (.func 78) #[] #[PQ u 0,PQ y 0]) rfl) (Vo (vr (.func (.func 78) #[] #[PQ u 0,PQ y 0]) rfl)) (Nt (fun ρ=>ρ 0=(v:AaR)∧ρ 2=(PQ u 0:AaR)∧ρ 3=(PQ y 0:AaR)∧ρ 4=(PQ ai 0:AaR)∧ρ 7=(.bool (false):AaR)∧ρ 10=(.bool (false):AaR)∧ρ 26=(.bool (false):AaR)∧True) ⟨o,q,r,T4,t,z,ae,trivial⟩ fun e8 ⟨o,q,r,T4,t,z,ae,_⟩=>(Iy (GA rfl (Yk.move o (KE rfl (Aah R8 (vr v rfl) ?_)))))))))))))));refine Ap (Tq _ (hG.keep hE) v b (hr.keep hE) (by omega) (by omega)) ?_ ?_;rotate_left
  ·
   rintro ch e9 ⟨c,hce,rfl,hx⟩;intro a_ ha_;show Leaves _ _ a_.tmps _ a_.defers (.panicking _) _;rw[ha_.defers];refine leaves_cons (f:=78) (args:= #[PQ u 0,PQ y 0]) (by simp) (by simp[go_sem]) ((Ql w u y c _ _ _ (hE.trans hx) (by omega) (by omega) (by omega) (eb hx g) (eb hx j)).mono ?_);rintro e u' w3 ⟨rfl,rfl,cw,cx,cy⟩;exact KF (ρ:=_) _ rfl [.pointer none,NI c] (.tuple #[.pointer none,NI c]) rfl ha_.get ⟨Yl (q) cw Fw rfl,Yl (r) cx R5 rfl,trivial⟩ ⟨_,rfl,_,_,rfl,by rw[hP,hce];exact⟨rfl,rfl⟩,cy⟩
  rintro v_ cz ⟨gp,vi,bo,ids,O,rfl,hrd,hgb,hgi,hmo,hoo,hlg,hlo,hlv,hlO,ak⟩;have hsz_:=(hE).size;have hE:=hE.trans ak;have g:=eb ak g;have s:=s.trans ak;have j:=eb ak j;have ad:=ad.trans ak;have aa:=eb ak aa;have hPk:PackNew w.heap.size cz (PQ gp 0) (ids,fun k=>(O k).map Abq):=⟨gp,vi,bo,O,rfl,rfl,hgb,hgi,hmo,hoo,AaV hsz_ hlg,AaV hsz_ hlo,(fun k hk=>AaV hsz_ (hlv k hk)),fun id x h k hk=>AaV hsz_ (hlO id x h k hk)⟩;have hob_n2:=g;refine GA rfl (XY (i:=0) (v:=PQ gp 0) q (vr (PQ gp 0) rfl) g (Aa9 rfl) Qi rfl rfl fun c0 bx a1 fa=> ?_);have hE:=Ab hE a1 (AaV (AaX _) (by omega));clear s;have j:=kb a1 j (by omega);clear ad;have aa:=kb a1 aa (by omega);have hPk:PackNew w.heap.size c0 (PQ gp 0) (ids,fun k=>(O k).map Abq):=PackNew.keepN hPk hob_n2 (fun _ h=>by cases h) a1;clear g;have g:=bx;clear bx;have fb:=bl g;have hob_n10:=j;refine GA rfl (XY (i:=0) (v:=NI 0) r (vr (NI 0) rfl) j (Aa9 rfl) Qj rfl rfl fun c1 bz a2 fc=> ?_);have hE:=Ab hE a2 (AaV a0 (by omega));have aa:=kb a2 aa (by omega);have hPk:PackNew w.heap.size c1 (PQ gp 0) (ids,fun k=>(O k).map Abq):=PackNew.keepN hPk hob_n10 (fun _ h=>by cases h) a2;have g:=kb a2 g (by omega);clear j;have j:=bz;clear bz;have fd:=bl j;refine Nt (fun ρ=>ρ 0=(v:AaR)∧ρ 2=(PQ u 0:AaR)∧ρ 3=(PQ y 0:AaR)∧ρ 4=(PQ ai 0:AaR)∧ρ 7=(.bool (false):AaR)∧ρ 10=(.bool (false):AaR)∧ρ 26=(.bool (false):AaR)∧True) ⟨o,q,r,T4,t,z,ae,trivial⟩ fun fe ⟨o,q,r,T4,t,z,ae,_⟩=>(Vn fun a_ ha_=> ?_);show Leaves _ _ a_.tmps _ a_.defers .returning _;rw[ha_.defers];refine leaves_cons (f:=78) (args:= #[PQ u 0,PQ y 0]) (by simp) (by simp[go_sem]) ((Qk u y _).mono ?_);rintro e u' w3 ⟨rfl,rfl,hxi⟩;exact KF (ρ:=_) _ rfl [PQ gp 0,NI 0] (.tuple #[PQ gp 0,NI 0]) rfl ha_.get ⟨Yl (q) (eb hxi g) Fw rfl,Yl (r) (eb hxi j) R5 rfl,trivial⟩ ⟨_,rfl,_,_,rfl,by rw[hP,hrd];exact⟨rfl,(hPk).keep hxi⟩,hE.trans hxi⟩
 have hP:BW b = .error 18:=(if_neg q1).trans ((if_neg q2).trans (if_neg q3));refine tN (ay _ _ (Cx _ BZ fun ff c2=>(sk fun fg c3=>(wt (oM rfl (oS rfl (XS F5 (XP (hr.keep hE) o) (oS rfl (XK (a:=(b.length:Nat)) (b:=(1048576:Nat)) rfl rfl (Bj _ _ _ _) (GV [(0,v),(2,PQ u 0),(3,PQ y 0),(7, .bool (false))] ⟨o,q,r,(congrArg AbA (decide_eq_false (q1))),trivial⟩ fun fh ⟨o,q,r,t,_⟩=>(tN (c3 _ _ (CJ t (DD (tN (c2 _ _ (Cx _ BZ fun fi c4=>(sk fun fj c5=>(wt (oM rfl ?_))))))))))))))))))));refine oS rfl (XS F5 (XP (hr.keep hE) o) (oS rfl (XK (a:=(b.length:Nat)) (b:=(36:Nat)) rfl rfl (AL _ _ _ _) (GV [(0,v),(2,PQ u 0),(3,PQ y 0),(7, .bool (false)),(10, .bool (false))] ⟨o,q,r,t,(congrArg AbA (decide_eq_false (q2))),trivial⟩ fun fk ⟨o,q,r,t,z,_⟩=>(tN (c5 _ _ (CJ z (DD (tN (c4 _ _ (Cx _ BZ fun fl c6=>(wt (oM rfl (oM rfl (oS rfl (XS F5 (XP (hr.keep hE) o) (oS rfl (XL (xv:=NI b.length) (yv:=NI 32) rfl rfl rfl (BJ _ _ _ (by omega) (by omega)) (oS rfl (Yv (xs:=b) (n:=(b.length)-(32)) F5 PG o (hr.keep hE) (vr (NI ((b.length)-(32))) rfl) (by omega) fun c7 ar ha123=>(oS rfl (Yu F8 (XP ar (vr c7 rfl)) fun b0 fm be au=> ?_))))))))))))))))))))));have hE:=hE.trans au;have g:=eb au g;have s:=s.trans au;have j:=eb au j;have ar:=ar.keep au;refine oS rfl (XQ JG (vr b0 rfl) ((FY _ (hG.keep hE) b0 (b.take ((b.length)-(32))) be (by simp only[Abg];omega)).mono ?_));rintro e c8 ⟨rfl,al⟩;refine⟨_,rfl,?_⟩;have hE:=hE.trans al;have g:=eb al g;have s:=s.trans al;have j:=eb al j;have ar:=ar.keep al;have be:=be.keep al;refine oS rfl (Yk.alloc (cs:=(AaT (Aa4 32 0)).toArray) Tf fun av c9 b1 b2 aw fo=> ?_);have ag:=Ext.refl c8;have fp:=hE;have fq:=s;have da:=hE.size;have db:=s.size;have fr:=Ar (bl g) b1;have fs:=Ar (bl j) b1;have hE:=hE.trans aw;have g:=eb aw g;have s:=s.trans aw;have j:=eb aw j;have ag:=ag.trans aw;have ac:=b2;clear b2;have ft:av<c9.heap.size:=by omega
 refine oS rfl (XN (vr (PQ av 0) rfl) (vr (AB (Sha.sum (b.take ((b.length)-(32))))) rfl) ac (by exact Bv (Sha.sum_length _) Abc) (by exact Ac (Sha.sum_length _)) (Af _) fun fu b3 ax fv=> ?_);have hE:=Ab hE ax (AaV da (by omega));have g:=kb ax g (by omega);have s:=Ab s ax (AaV db (by omega));have j:=kb ax j (by omega);have ag:=Ab ag ax (AaV (AaX _) (by omega));clear ac;have ac:=b3;clear b3;have fw:=bl ac;refine GV [(0,v),(2,PQ u 0),(3,PQ y 0),(4,PQ av 0),(7, .bool (false)),(10, .bool (false))] ⟨o,q,r,rfl,t,z,trivial⟩ fun fx ⟨o,q,r,T4,t,z,_⟩=>(tN (c6 _ _ (Cx _ BZ fun fy fz=>(sk fun f0 dc=> ?_))));refine Hd [Is (.slice (some ⟨av,0,none⟩) 32 32),Is (St ((Sha.sum (b.take ((b.length)-(32)))))),Is (v),Is (v),Is (NI b.length),Is (NI ((b.length)-(32))),fun x w' =>RB w' x (b.drop ((b.length)-(32))),Is (St (b.drop ((b.length)-(32)))),Is (.bool (true))] (by kernel_rfl) [18,19,20,21,22,23,24,25,26] (by kernel_rfl) (by kernel_rfl) (Xq ⟨(fun _ _ _ h k=>RB.keep h k),(Ls trivial)⟩) ?dd ?hQ2006
 case dd=>
  refine⟨?_,?_,?_,?_,?_,?_,?_,?_,?_,trivial⟩
  ·refine Aj rfl fun σ w1 hC h=> ?_;have e4:=(AI (h 4 (by decide))).trans T4;exact Yt UY PG e4 ⟨Ext.refl _,rfl⟩
  ·refine Aj rfl fun σ w1 hC h=> ?_;have a6:=AI (h 18 (by decide));exact Yh F5 u5 O7 (XP (YF (eb hC ac) (Sha.sum_length _) (by decide)) a6) ⟨Ext.refl _,rfl⟩
  ·refine Aj rfl fun σ w1 hC h=> ?_;have e0:=(AI (h 0 (by decide))).trans o;exact Yk.move e0 ⟨Ext.refl _,rfl⟩
  ·refine Aj rfl fun σ w1 hC h=> ?_;have e0:=(AI (h 0 (by decide))).trans o;exact Yk.move e0 ⟨Ext.refl _,rfl⟩
  ·refine Aj rfl fun σ w1 hC h=> ?_;have a7:=AI (h 21 (by decide));exact XS F5 (XP (hr.keep (hE.trans hC)) a7) ⟨Ext.refl _,rfl⟩
  ·refine Aj rfl fun σ w1 hC h=> ?_;have a8:=AI (h 22 (by decide));exact XL (xv:=NI b.length) (yv:=NI 32) a8 rfl rfl (BJ _ _ _ (by omega) (by omega)) ⟨Ext.refl _,rfl⟩
  ·refine Aj rfl fun σ w1 hC h=> ?_;have a9:=AI (h 20 (by decide));have ba:=AI (h 23 (by decide));exact Yg (xs:=b) (l:=(b.length)-(32)) F5 PG rfl (XP (hr.keep (hE.trans hC)) a9) ba (by omega) fun v hr _=>⟨Ext.refl _,hr⟩
  ·refine Aj rfl fun σ w1 hC h=> ?_;have bb:(fun x w' =>RB w' x (b.drop ((b.length)-(32)))) (σ 24) w1:=h 24 (by decide);exact Yh F5 u5 O7 bb ⟨Ext.refl _,rfl⟩
  ·refine Aj rfl fun σ w1 hC h=> ?_;have bc:=AI (h 19 (by decide));have bd:=AI (h 25 (by decide));exact YE (l:=(Sha.sum (b.take ((b.length)-(32))))) (m:=b.drop ((b.length)-(32))) (.inr rfl) bc bd (decide ((Sha.sum (b.take ((b.length)-(32))))≠(b.drop ((b.length)-(32)):List UInt8))) rfl ⟨Ext.refl _,(congrArg AbA (decide_eq_true (q3)))⟩
 intro de f1 am he hf;obtain⟨-,-,-,-,-,-,-,-,k26,-⟩:=hf;obtain⟨o,q,r,T4,t,z,-⟩:=he.hold [(0,_),(2,_),(3,_),(4,_),(7,_),(10,_)] ⟨o,q,r,T4,t,z,trivial⟩ rfl;clear he;have hE:=hE.trans am;have g:=eb am g;have s:=s.trans am;have j:=eb am j;have ag:=ag.trans am;have ac:=eb am ac;have ae:de 26 = .bool (true):=k26;clear k26;refine tN (dc _ _ (EH ae (sk fun f2 df=>(wt (oS rfl (XY (i:=0) (v:= .pointer none) q (vr (.pointer none) rfl) g (Aa9 rfl) Qi rfl rfl fun f3 b4 bf f4=> ?_))))));have hE:=Ab hE bf (AaV (AaX _) (by omega));clear s;have j:=kb bf j (by omega);clear ag;have ac:=kb bf ac (by omega);clear g;have g:=b4;clear b4;have f5:=bl g;refine oS rfl (XY (i:=0) (v:=NI 18) r (vr (NI 18) rfl) j (Aa9 rfl) Qj rfl rfl fun f6 b5 bg f7=> ?_);have hE:=Ab hE bg (AaV a0 (by omega));have ac:=kb bg ac (by omega);have g:=kb bg g (by omega);clear j;have j:=b5;clear b5;have f8:=bl j;refine GV [(0,v),(2,PQ u 0),(3,PQ y 0),(4,PQ av 0),(7, .bool (false)),(10, .bool (false)),(26, .bool (true))] ⟨o,q,r,T4,t,z,ae,trivial⟩ fun f9 ⟨o,q,r,T4,t,z,ae,_⟩=>(tN (df _ _ (IT (H9 (CK (fn:=Tryz.f43) _ rfl [.pointer none,NI 18] (.tuple #[.pointer none,NI 18]) rfl ⟨Yl q g Fw rfl,Yl r j R5 rfl,trivial⟩ ?_)))));exact⟨_,rfl,_,_,rfl,by rw[hP];exact⟨rfl,rfl⟩,hE⟩

section
variable {P : Abo} {K : AaR → AaS → Prop} {ρ : Ad} {w : AaS} {d : Option Tmp} {ty : AaZ} {pos : String} {af : Array AbP} {gd : Option (Nat × Bool)}
theorem R9{t e:AaZ}(ht:P.underlying t=some (.slice e))(a:Option Addr)(n c:Nat)(w:AaS):(Aez t (.slice a n c) (.slice none 0 0)).run P w = .ok a.isNone w:=by
  unfold Aez;rw[show Age=(Age-1)+1 from rfl];cases a <;> simp[Agq,run_underlying ht,Aa7,Abb]
theorem Y9{t e ty2:AaZ}(ht:P.underlying t=some (.slice e)){x:Aa5}{a:Option Addr}{n c:Nat}(hx:Aa ρ x = .slice a n c)(hk:K (.bool a.isNone) w):Yk P K ((execOp (Aa ρ) ⟨d, .binOp .eql t x (.const (.slice none 0 0)) ty2,ty,pos,af,gd⟩).run P w):=by
  have hy:Aa ρ (.const (.slice none 0 0)) = .slice none 0 0:=rfl;refine Yk.value (v:= .bool a.isNone) (w' :=w) ?_ hk;have hr:=R9 ht a n c w;unfold execOp;simp only[hx,hy];cases a <;> simp[eqGuard,Abt,hr]
end
end Go.Proofs.YtfpekahfdalfkaaGreatDoor
