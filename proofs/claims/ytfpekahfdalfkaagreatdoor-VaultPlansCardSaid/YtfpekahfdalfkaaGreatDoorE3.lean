/- Part 3 of what stands behind these statements: laws and walks of the functions that are reached. Conditions: those that each theorem names. -/
import Derived.Test.YtfpekahfdalfkaaGreatDoorE2
set_option linter.unusedVariables false
set_option linter.unusedSimpArgs false
namespace Go.Proofs.YtfpekahfdalfkaaGreatDoor
open _root_.Go.Proofs.Tryz renaming prog->AbL,underlying5->Afa
open _root_.Go renaming Value->AbI,World->AbJ,TypeId->AbQ,Operand->AbV
open _root_.Go.Instr renaming buildSlice->Acq
open _root_.Go.Lib renaming byteCells->AbK,byteCells_length->AbZ,uvarint->Ab3,uvarint_small->AeX
open _root_.List renaming length_nil->Acl,nil_append->AcO,length_take_le->AhE,length_take->Ab5,length_drop->Ab6,length_append->AbP,map_toArray->Acp,map_cons->Aco,map_nil->Acz,append_toArray->AdZ,cons_append->AcM,toArray->Adh,length_cons->Ach,replicate->AbX,size_toArray->Ab4,mem_singleton->AbW,take_succ_eq_append_getElem->Acn,getD_eq_getElem?_getD->AbN,getElem?_eq_getElem->AbT,mem_filter->Adr,mem_range->Afz,length_map->Ab9,take_of_length_le->AcD,append_assoc->Acj,drop_left->AdI,foldl_cons->AeK,take_succ_cons->AeF,append_nil->AdG,drop_drop->Ahg,flatMap_cons->AcJ,length_replicate->Ab8,length_set->Adq,flatten_append->AhF,mem_cons->Acy,zip_cons_cons->AdR,lookup_cons->Adk,mem_append->Acb,getElem?_append_left->AcG,map->Aeq,getElem?_append_right->AcA,singleton_append->Ae0,flatMap_append->AeC
open _root_.Go.Value renaming slice->AbR,ownBlock->AbS
open _root_.Nat renaming le_refl->AbO,le_trans->AbM,zero_le->Ack,zero_add->Ac2,lt_of_lt_of_le->AcE,le_of_ble_eq_true->Ab2,add_sub_cancel_left->AdT,min_comm->AhM,sub_self->Ady
open _root_.And renaming intro->Acr
open _root_.Int renaming toNat_natCast->Ab0
open _root_.Go.Sem renaming run_bind->AbY,run_pure->Ab1
open _root_.Go.Result renaming andThen_ok->AbU
open _root_.Array renaming getElem?_eq_some_iff->Ace
open _root_.Go.World renaming ownsRow_nil->AcH
open Go.RowKit
set_option maxRecDepth 100000
set_option maxHeartbeats 1600000
theorem pk6_ig33:∃z,(Tryz.prog.info? 33).map (fun i=>(i.zero,i.size,i.bytes))=some (some z,32,32)/\z.cells.size=32:=E8 (by kernel_rfl)
theorem JI:Plain AbL 99:=fun _ _=>by kernel_rfl
theorem RD:Plain AbL 100:=fun _ _=>by kernel_rfl
theorem To(c0 c1 c2 c3 c4 c5 c6 c7 c8 c9 c10 c11 c12 c13 c14 c15 c16 c17 c18 c19 c20 c21 c22 c23 c24 c25 c26 c27 c28 c29 c30 c31:AbI)(w:AbJ):(Acq 42 1 #[(0, .agg #[c0,c1,c2,c3,c4,c5,c6,c7,c8,c9,c10,c11,c12,c13,c14,c15,c16,c17,c18,c19,c20,c21,c22,c23,c24,c25,c26,c27,c28,c29,c30,c31])]).run AbL w = .ok (.slice (some ⟨w.heap.size,0,none⟩) 1 1) (w.alloc (.cells #[c0,c1,c2,c3,c4,c5,c6,c7,c8,c9,c10,c11,c12,c13,c14,c15,c16,c17,c18,c19,c20,c21,c22,c23,c24,c25,c26,c27,c28,c29,c30,c31] 33)):=by kernel_rfl
theorem Ng:∀(cs:Array AbI),cs.size=32->∀w:AbJ,(Acq 42 1 #[(0, .agg cs)]).run AbL w = .ok (.slice (some ⟨w.heap.size,0,none⟩) 1 1) (w.alloc (.cells cs 33))
 | ⟨[c0,c1,c2,c3,c4,c5,c6,c7,c8,c9,c10,c11,c12,c13,c14,c15,c16,c17,c18,c19,c20,c21,c22,c23,c24,c25,c26,c27,c28,c29,c30,c31]⟩,_,w=>To c0 c1 c2 c3 c4 c5 c6 c7 c8 c9 c10 c11 c12 c13 c14 c15 c16 c17 c18 c19 c20 c21 c22 c23 c24 c25 c26 c27 c28 c29 c30 c31 w
theorem PZ(n:Nat)(ih:∀l:List Bs,l.length<n->∀(w:AbJ) (v:AbI),RG 32 AbK w v l->Calls AbL 99 #[v, .func (.func 100) #[] #[]] w fun e w' =>∃v' m,e = .returned v' /\OG w.heap.size 33 32 AbK w' v' m/\m.Perm l/\C1 m/\Ext w w')(l:List Bs)(hn:l.length=n)(hlim:l.length<=1048576)(w:AbJ)(v:AbI)(hr:RG 32 AbK w v l):
  Calls AbL 99 #[v, .func (.func 100) #[] #[]] w fun e w' =>∃v' m,e = .returned v' /\OG w.heap.size 33 32 AbK w' v' m/\m.Perm l/\C1 m/\Ext w w' :=by
 refine gG (args:= [v, .func (.func 100) #[] #[]]) Tryz.func99 rfl 68 rfl rfl ?_;have hE:=AaY w;refine gS (X6 Nd (XW hr rfl) (gS (XQ (a:=(l.length:Nat)) (b:=(2:Nat)) rfl rfl (AK _ _ _ _) ?_)));refine cD rfl (fun a1=> ?_) fun a1=> ?_
 ·refine gS (X7 _ _ w.heap.size _ 32 Nd pk6_ig33.choose_spec.1 pk6_ig33.choose_spec.2 Nd ([]) (l) (Aar _ _ _) (XW hr (vr v rfl)) (fun _ _=>Ag _) (by simp only[Acl];omega) (by simp only[Acl];omega) hE.size fun v5 w6 bk ak=> ?_);have ak:Grew w w6 (.slice none 0 0) v5:=ak;have hx_:Ext w w6:=Zl (by have:=ak.by_;exact this);refine Bp rfl (vr v5 rfl) ?_;have hE:=hE.trans hx_;exact⟨_,l,rfl,OG.base (Bc bk (AcO l)) (by omega),List.Perm.refl _,RC a1,hE⟩
 refine gR ?_;refine Hf [Is (v),Is (v),Is (NI l.length),Is (NI ((l.length)/(2))),fun x _=>RG 32 (AbK) w x (l.take ((l.length)/(2))),Is (.func (.func 100) #[] #[]),fun x w' =>∃m,RG 32 AbK w' x m/\m.Perm (l.take ((l.length)/(2)))/\C1 m,Is (v),Is (v),Is (NI l.length),Is (NI ((l.length)/(2))),fun x _=>RG 32 (AbK) w x (l.drop ((l.length)/(2))),Is (.func (.func 100) #[] #[]),fun x w' =>∃m,RG 32 AbK w' x m/\m.Perm (l.drop ((l.length)/(2)))/\C1 m,fun x w' =>∃m,RG 32 AbK w' x m/\m.Perm (l.take ((l.length)/(2)))/\C1 m,fun x w' =>∃m,RG 32 AbK w' x m/\m.Perm (l.drop ((l.length)/(2)))/\C1 m] (by kernel_rfl) [13,14,15,16,17,18,19,20,21,22,23,24,25,26,5,6] (by kernel_rfl) (by kernel_rfl) (Wv ⟨(fun _ _ _ h _=>h),X0 _,(fun _ _ _ ⟨m,h1,h2⟩ k=>⟨m,h1.keep k,h2⟩),(Wv ⟨(fun _ _ _ h _=>h),X0 _,(fun _ _ _ ⟨m,h1,h2⟩ k=>⟨m,h1.keep k,h2⟩),(fun _ _ _ ⟨m,h1,h2⟩ k=>⟨m,h1.keep k,h2⟩),(fun _ _ _ ⟨m,h1,h2⟩ k=>⟨m,h1.keep k,h2⟩),trivial⟩)⟩) ?bm ?hQ1003
 case bm=>
  refine⟨?_,?_,?_,?_,?_,?_,?_,?_,?_,?_,?_,?_,?_,?_,?_,?_,trivial⟩
  ·refine Aj rfl fun σ w1 hC h=> ?_;have s:σ 0=v:=(AH (h 0 (by decide))).trans rfl;exact Aa7 s ⟨AaY _,rfl⟩
  ·refine Aj rfl fun σ w1 hC h=> ?_;have s:σ 0=v:=(AH (h 0 (by decide))).trans rfl;exact Aa7 s ⟨AaY _,rfl⟩
  ·refine Aj rfl fun σ w1 hC h=> ?_;have bn:=AH (h 14 (by decide));exact X6 Nd (XW (hr.keep hC) bn) ⟨AaY _,rfl⟩
  ·refine Aj rfl fun σ w1 hC h=> ?_;have bo:=AH (h 15 (by decide));exact XR (xv:=NI l.length) (yv:=NI 2) bo rfl rfl (Lb _ _ _ (by omega) (by omega)) ⟨AaY _,rfl⟩
  ·refine Aj rfl fun σ w1 hC h=> ?_;have bp:=AH (h 13 (by decide));have bq:=AH (h 16 (by decide));exact ZR Nd RA bp hr bq (by omega) fun v h _=>⟨AaY _,h⟩
  ·refine Aj rfl fun σ w1 hC h=> ?_;have e1:σ 1 = .func (.func 100) #[] #[]:=(AH (h 1 (by decide))).trans rfl;exact Aa7 e1 ⟨AaY _,rfl⟩
  ·refine Aj rfl fun σ w1 hC h=> ?_;have br:(fun x _=>RG 32 (AbK) w x (l.take ((l.length)/(2)))) (σ 17) w1:=h 17 (by decide);have bs:=AH (h 18 (by decide));refine XS JI rfl bs ((ih (l.take ((l.length)/(2))) (by have hlen_:=AhE (l.length/2) l;first | (simp only[Ab5];omega) | (simp only[Ab6];omega)) _ _ (RG.keep br hC)).mono ?_);rintro e w2 ⟨_,m,rfl,h1,h2,h3,h4⟩;exact⟨_,rfl,h4,m,X1 h1,h2,h3⟩
  ·refine Aj rfl fun σ w1 hC h=> ?_;have s:σ 0=v:=(AH (h 0 (by decide))).trans rfl;exact Aa7 s ⟨AaY _,rfl⟩
  ·refine Aj rfl fun σ w1 hC h=> ?_;have s:σ 0=v:=(AH (h 0 (by decide))).trans rfl;exact Aa7 s ⟨AaY _,rfl⟩
  ·refine Aj rfl fun σ w1 hC h=> ?_;have bt:=AH (h 21 (by decide));exact X6 Nd (XW (hr.keep hC) bt) ⟨AaY _,rfl⟩
  ·refine Aj rfl fun σ w1 hC h=> ?_;have bu:=AH (h 22 (by decide));exact XR (xv:=NI l.length) (yv:=NI 2) bu rfl rfl (Lb _ _ _ (by omega) (by omega)) ⟨AaY _,rfl⟩
  ·refine Aj rfl fun σ w1 hC h=> ?_;have bv:=AH (h 20 (by decide));have bw:=AH (h 23 (by decide));exact Y3 Nd RA bv hr bw (by omega) fun v h _=>⟨AaY _,h⟩
  ·refine Aj rfl fun σ w1 hC h=> ?_;have e1:σ 1 = .func (.func 100) #[] #[]:=(AH (h 1 (by decide))).trans rfl;exact Aa7 e1 ⟨AaY _,rfl⟩
  ·refine Aj rfl fun σ w1 hC h=> ?_;have bx:(fun x _=>RG 32 (AbK) w x (l.drop ((l.length)/(2)))) (σ 24) w1:=h 24 (by decide);have bz:=AH (h 25 (by decide));refine XS JI rfl bz ((ih (l.drop ((l.length)/(2))) (by have hlen_:=AhE (l.length/2) l;first | (simp only[Ab5];omega) | (simp only[Ab6];omega)) _ _ (RG.keep bx hC)).mono ?_);rintro e w2 ⟨_,m,rfl,h1,h2,h3,h4⟩;exact⟨_,rfl,h4,m,X1 h1,h2,h3⟩
  ·refine Aj rfl fun σ w1 hC h=> ?_;have b0:(fun x w' =>∃m,RG 32 AbK w' x m/\m.Perm (l.take ((l.length)/(2)))/\C1 m) (σ 19) w1:=h 19 (by decide);exact Abb rfl ⟨AaY _,b0⟩
  ·refine Aj rfl fun σ w1 hC h=> ?_;have b1:(fun x w' =>∃m,RG 32 AbK w' x m/\m.Perm (l.drop ((l.length)/(2)))/\C1 m) (σ 26) w1:=h 26 (by decide);exact Abb rfl ⟨AaY _,b1⟩
 intro aa g a4 he hf;obtain⟨-,-,-,-,-,-,-,-,-,-,-,-,-,-,k5,k6,-⟩:=hf;obtain⟨p,q,r,-⟩:=he.hold [(0,v),(1, .func (.func 100) #[] #[]),(4,(AbR none 0 0))] ⟨rfl,rfl,rfl,trivial⟩ rfl;clear he;have k5:(fun x w' =>∃m,RG 32 AbK w' x m/\m.Perm (l.take ((l.length)/(2)))/\C1 m) (aa 5) g:=k5;obtain⟨b2,i⟩:∃v,aa 5=v:=⟨_,rfl⟩;rw[i]at k5;have b3:=k5;clear k5;obtain⟨A,b4,b5,ha17⟩:=b3;have k6:(fun x w' =>∃m,RG 32 AbK w' x m/\m.Perm (l.drop ((l.length)/(2)))/\C1 m) (aa 6) g:=k6;obtain⟨b6,j⟩:∃v,aa 6=v:=⟨_,rfl⟩;rw[j]at k6;have b7:=k6;clear k6;obtain⟨B,b8,b9,ha22⟩:=b7;have hr:=hr.keep a4;refine gX (gS (X6 Nd (XW hr p) ?_));have f:=AaY g;have hE:=hE.trans a4;have t:=hE.size;refine gS (AaB (enc:=AbK) g.heap.size _ 32 Nd pk6_ig33.choose_spec.1 rfl rfl (by omega) (by omega) (AbO _) fun ca c4 a5 a6=> ?_);have hE:=hE.trans a6;have f:=f.trans a6;refine gL (fun(ρ:Ac) (wz:AbJ)=>∃va:AbI,∃vb:AbI,∃Al:List Bs,∃Bl:List Bs,∃Ol:List Bs,∃vo:AbI,ρ 0=(v:AbI)/\ρ 1=(.func (.func 100) #[] #[]:AbI)/\ρ 4=((AbR none 0 0):AbI)/\ρ 5=(va:AbI)/\ρ 6=(vb:AbI)/\ρ 7=(vo:AbI)/\Ext w wz/\Ext g wz/\RG 32 AbK g va Al/\RG 32 AbK g vb Bl/\OG g.heap.size 33 32 (AbK) wz vo Ol/\(MI l Ol Al Bl)/\True) (fun ρ _=>BF (ρ 5)+BF (ρ 6)) ⟨b2,b6,A,B,[],ca,p,q,r,i,j,rfl,hE,f,b4,b8,a5,AaD b5 b9 ha17 ha22,trivial⟩ ?_;clear a5;clear hE;rintro ab a7 ⟨va,vb,Al,Bl,Ol,vo,p,q,r,i,j,o,hE,f,hfa,hfb,hfo,hMI,-⟩;have q5:=i;have q6:=j;have qa:=hfa.sliceLen;have qb:=hfb.sliceLen;have hla:=hMI.perm.length_eq;simp only[AbP]at hla;by_cases hga:0<Al.length
 ·by_cases hgb:0<Bl.length
  ·refine gS (X6 Nd (XW (hfa.keep f) i) (gS (XQ (a:=(Al.length:Nat)) (b:=(0:Nat)) rfl rfl (Bh _ _ _ _) (kT (hga) (gS (X6 Nd (XW (hfb.keep f) j) (gS (XQ (a:=(Bl.length:Nat)) (b:=(0:Nat)) rfl rfl (Bh _ _ _ _) (kT (hgb) (gS (XY rfl rfl (cT rfl (CA [0,1,2,3,4,5,6,7,8] [7] [] fun c5 am=> ?_)))))))))))));have f:=f.trans am;have a8:(AbK (Al.getD (0) ([]:Ah5))).length=32:=(Aa6 (hfa.keep f) ([]:Ah5) (by omega));refine yA (X9 Nd RA (by decide) ([]:Ah5) (XW (hfa.keep f) i) rfl (by omega) fun c6 ac=>(ys (Yg (Yc ac rfl) U7 rfl (by rw[a8];exact Rl) zz) ?_));have a9:(AbK (Bl.getD (0) ([]:Ah5))).length=32:=(Aa6 (hfb.keep f) ([]:Ah5) (by omega));refine yA (X9 Nd RA (by decide) ([]:Ah5) (XW (hfb.keep f) j) rfl (by omega) fun c7 ad=>(ys (Yg (Yc ad rfl) U7 rfl (by rw[a9];exact Rl) zz) (yC (YT RD (caps:= #[]) q #[AB (Al.getD (0) ([]:Ah5)),AB (Bl.getD (0) ([]:Ah5))] (by simp only[Acp,Aco,Acz,AdZ,AcM,AcO];exact congrArg Adh (FK rfl rfl)) ((GN _ (Al.getD (0) ([]:Ah5)) (Bl.getD (0) ([]:Ah5)) ((AC (a8))) ((AC (a9)))).mono ?_)))));rintro e c ⟨rfl,u⟩;refine⟨_,rfl,?_⟩;have ac:=Abm ac u;have ad:=Abm ad u;refine ys (XQ rfl rfl (W8 _ .i64 (Lib.compareBytes (Al.getD (0) ([]:Ah5)) (Bl.getD (0) ([]:Ah5)):Int) ((0:Nat):Int)) zz) ?_;clear ac;clear ad;refine cD rfl (fun an=> ?_) fun an=> ?_
   ·refine gR ?_;have hZ1:=am.trans u;have hfo:=hfo.keep hZ1;have cb:∀k,AbS vo=some k->g.heap.size<=k:=fun k hk=>(hfo.2.lt k hk).1;have f:=f.trans u;have hsz_:g.heap.size<=c.heap.size:=f.size;refine Em (AbS vo) [5] [0] (fun m=>if m=5 then [0,2,4]else []) (fun m=>if m=5 then [0,2,4,5,8]else []) [fun x w' =>FC g.heap.size c.heap.size 33 32 (AbK) (AbS vo) (Ol) x w',Is (va),fun x w' =>PR (AbK (Al.getD (0) ([]:Ah5))) x w',Is (AB (Al.getD (0) ([]:Ah5))),fun x w' =>RG 32 (AbK) w' x ([(Al.getD (0) ([]:Ah5))]),fun x w' =>FC g.heap.size c.heap.size 33 32 (AbK) (AbS vo) ((Ol)++ [(Al.getD (0) ([]:Ah5))]) x w',Is (va),fun x _=>RG 32 (AbK) g x (Al.drop (1)),fun x w' =>FC g.heap.size c.heap.size 33 32 (AbK) (AbS vo) ((Ol)++ [(Al.getD (0) ([]:Ah5))]) x w',fun x _=>RG 32 (AbK) g x (Al.drop (1))] (by kernel_rfl) [47,48,49,50,51,52,53,54,7,5] (by kernel_rfl) (by kernel_rfl) (by kernel_rfl) (by kernel_rfl) (by kernel_rfl) rfl ⟨(fun _ _ _ h k=>⟨Abt h.1 k,h.2⟩),X0 _,(fun _ _ _ h k=>Abm h k),X0 _,(fun _ _ _ h k=>RG.keep h k),(fun _ _ _ h k=>⟨Abt h.1 k,h.2⟩),X0 _,(fun _ _ _ h _=>h),(fun _ _ _ h k=>⟨Abt h.1 k,h.2⟩),(fun _ _ _ h _=>h),trivial⟩ ⟨⟨.inl rfl, .inr (X0 _), .inl rfl, .inr (X0 _), .inl rfl, .inl rfl, .inr (X0 _), .inr ((fun _ _ _ h _=>h)), .inl rfl, .inr ((fun _ _ _ h _=>h)),trivial⟩,trivial⟩ ?cc ?hQ2007
    case cc=>
     refine⟨?_,?_,?_,?_,?_,?_,?_,?_,?_,?_,trivial⟩
     ·refine Aj rfl fun σ w1 hC h=> ?_;have hX:Ext c w1:=hC;have hC:BX c.heap.size (AbS vo) c w1:=Yq hX (AbO _);have e7:=(AH (h 7 (by decide))).trans o;exact Aa7 e7 ⟨AaY _,Abt hfo hX,fun k hk=> .inl hk⟩
     ·refine Aj rfl fun σ w1 hC h=> ?_;have hC:BX c.heap.size (AbS vo) c w1:=hC;have e5:=(AH (h 5 (by decide))).trans i;exact Aa7 e5 ⟨AaY _,rfl⟩
     ·refine Aj rfl fun σ w1 hC h=> ?_;have hC:BX c.heap.size (AbS vo) c w1:=hC;have cd:=AH (h 48 (by decide));exact X9 Nd RA (by decide) ([]:Ah5) (XW (hfa.keep (Dz f hC (by omega) (fun k hk=>by have:=cb k hk;omega))) cd) (vr (NI 0) rfl) (by omega) fun v h=>⟨AaY _,h⟩
     ·refine Aj rfl fun σ w1 hC h=> ?_;have hC:BX c.heap.size (AbS vo) c w1:=hC;have ce:(fun x w' =>PR (AbK (Al.getD (0) ([]:Ah5))) x w') (σ 49) w1:=h 49 (by decide);exact Yg ce U7 rfl (by rw[Aa6 hfa ([]:Ah5) (by omega)];exact Rl) ⟨AaY _,rfl⟩
     ·refine Aj rfl fun σ w1 hC h=> ?_;have hC:BX c.heap.size (AbS vo) c w1:=hC;have cf:=AH (h 50 (by decide));exact Yu (a:=(Al.getD (0) ([]:Ah5))) (enc:=AbK) cf (by rw[AbZ];exact(AC (Aa6 hfa ([]:Ah5) (by omega)))) Ng fun v w2 h hx=>⟨hx,h⟩
     ·refine Aj rfl fun σ w1 hC h=> ?_;have hC:BX c.heap.size (AbS vo) c w1:=hC;have aq:(fun x w' =>FC g.heap.size c.heap.size 33 32 (AbK) (AbS vo) (Ol) x w') (σ 47) w1:=h 47 (by decide);have cg:(fun x w' =>RG 32 (AbK) w' x ([(Al.getD (0) ([]:Ah5))])) (σ 51) w1:=h 51 (by decide);exact X7 _ _ g.heap.size _ 32 Nd pk6_ig33.choose_spec.1 pk6_ig33.choose_spec.2 Nd (Ol) ([(Al.getD (0) ([]:Ah5))]) aq.1 cg (fun _ _=>Ag _) (by simp only[Ach,Acl];omega) (by simp only[Ach,Acl];omega) (AbM hsz_ hC.size) fun v w2 ho hg=>⟨Yr hg.by_ hC.size aq.2,ho,fun k hk=>(hg.fresh k hk).elim (aq.2 k) (fun x=> .inr (AbM hC.size x))⟩
     ·refine Aj rfl fun σ w1 hC h=> ?_;have hC:BX c.heap.size (AbS vo) c w1:=hC;have e5:=(AH (h 5 (by decide))).trans i;exact Aa7 e5 ⟨AaY _,rfl⟩
     ·refine Aj rfl fun σ w1 hC h=> ?_;have hC:BX c.heap.size (AbS vo) c w1:=hC;have ch:=AH (h 53 (by decide));exact Y3 Nd RA ch hfa (vr (NI 1) rfl) (by omega) fun v h _=>⟨AaY _,h⟩
     ·refine Aj rfl fun σ w1 hC h=> ?_;have hC:BX c.heap.size (AbS vo) c w1:=hC;have ci:(fun x w' =>FC g.heap.size c.heap.size 33 32 (AbK) (AbS vo) ((Ol)++ [(Al.getD (0) ([]:Ah5))]) x w') (σ 52) w1:=h 52 (by decide);exact Abb rfl ⟨AaY _,ci⟩
     ·refine Aj rfl fun σ w1 hC h=> ?_;have hC:BX c.heap.size (AbS vo) c w1:=hC;have cj:(fun x _=>RG 32 (AbK) g x (Al.drop (1))) (σ 54) w1:=h 54 (by decide);exact Abb rfl ⟨AaY _,cj⟩
    intro y ar ck he hf;obtain⟨-,-,-,-,-,-,-,-,k7,k5,-⟩:=hf;obtain⟨p,q,r,j,cl,-⟩:=he.hold [(0,_),(1,_),(4,_),(6,_),(37, .bool (true))] ⟨p,q,r,j,rfl,trivial⟩ rfl;clear he;have k7:(fun x w' =>FC g.heap.size c.heap.size 33 32 (AbK) (AbS vo) ((Ol)++ [(Al.getD (0) ([]:Ah5))]) x w') (y 7) ar:=k7;obtain⟨ba,o⟩:∃v,y 7=v:=⟨_,rfl⟩;rw[o]at k7;have bb:Grew c ar vo ba:=⟨ck.grown,k7.2⟩;have cm:=k7.1;clear k7;have hE:=hE.trans hZ1;have hE:=Ao hE bb hfo.2 t;have f:=Ao f bb hfo.2 (AbO _);clear hfo;have k5:(fun x _=>RG 32 (AbK) g x (Al.drop (1))) (y 5) ar:=k5;obtain⟨cn,i⟩:∃v,y 5=v:=⟨_,rfl⟩;rw[i]at k5;have bc:=k5;clear k5;refine gX (gK (Acr ⟨cn,vb,Al.drop (1),Bl,(Ol)++ [(Al.getD (0) ([]:Ah5))],ba,p,q,r,i,j,o,hE,f,bc,hfb,cm,hMI.left (by omega) (by omega) an,trivial⟩ ?_));show BF (y 5)+BF (y 6)<BF (ab 5)+BF (ab 6);rw[i,j,q5,q6];have n5:=bc.sliceLen;have n6:=hfb.sliceLen
    try rw[n5]
    try rw[n6]
    try rw[qa]
    try rw[qb]
    simp only[Ab6];omega
   refine gR ?_;have hZ2:=am.trans u;have hfo:=hfo.keep hZ2;have co:∀k,AbS vo=some k->g.heap.size<=k:=fun k hk=>(hfo.2.lt k hk).1;have f:=f.trans u;have hsz_:g.heap.size<=c.heap.size:=f.size;refine Em (AbS vo) [5] [0] (fun m=>if m=5 then [0,2,4]else []) (fun m=>if m=5 then [0,2,4,5,8]else []) [fun x w' =>FC g.heap.size c.heap.size 33 32 (AbK) (AbS vo) (Ol) x w',Is (vb),fun x w' =>PR (AbK (Bl.getD (0) ([]:Ah5))) x w',Is (AB (Bl.getD (0) ([]:Ah5))),fun x w' =>RG 32 (AbK) w' x ([(Bl.getD (0) ([]:Ah5))]),fun x w' =>FC g.heap.size c.heap.size 33 32 (AbK) (AbS vo) ((Ol)++ [(Bl.getD (0) ([]:Ah5))]) x w',Is (vb),fun x _=>RG 32 (AbK) g x (Bl.drop (1)),fun x w' =>FC g.heap.size c.heap.size 33 32 (AbK) (AbS vo) ((Ol)++ [(Bl.getD (0) ([]:Ah5))]) x w',fun x _=>RG 32 (AbK) g x (Bl.drop (1))] (by kernel_rfl) [55,56,57,58,59,60,61,62,7,6] (by kernel_rfl) (by kernel_rfl) (by kernel_rfl) (by kernel_rfl) (by kernel_rfl) rfl ⟨(fun _ _ _ h k=>⟨Abt h.1 k,h.2⟩),X0 _,(fun _ _ _ h k=>Abm h k),X0 _,(fun _ _ _ h k=>RG.keep h k),(fun _ _ _ h k=>⟨Abt h.1 k,h.2⟩),X0 _,(fun _ _ _ h _=>h),(fun _ _ _ h k=>⟨Abt h.1 k,h.2⟩),(fun _ _ _ h _=>h),trivial⟩ ⟨⟨.inl rfl, .inr (X0 _), .inl rfl, .inr (X0 _), .inl rfl, .inl rfl, .inr (X0 _), .inr ((fun _ _ _ h _=>h)), .inl rfl, .inr ((fun _ _ _ h _=>h)),trivial⟩,trivial⟩ ?cp ?hQ3008
   case cp=>
    refine⟨?_,?_,?_,?_,?_,?_,?_,?_,?_,?_,trivial⟩
    ·refine Aj rfl fun σ w1 hC h=> ?_;have hX:Ext c w1:=hC;have hC:BX c.heap.size (AbS vo) c w1:=Yq hX (AbO _);have e7:=(AH (h 7 (by decide))).trans o;exact Aa7 e7 ⟨AaY _,Abt hfo hX,fun k hk=> .inl hk⟩
    ·refine Aj rfl fun σ w1 hC h=> ?_;have hC:BX c.heap.size (AbS vo) c w1:=hC;have e6:=(AH (h 6 (by decide))).trans j;exact Aa7 e6 ⟨AaY _,rfl⟩
    ·refine Aj rfl fun σ w1 hC h=> ?_;have hC:BX c.heap.size (AbS vo) c w1:=hC;have cq:=AH (h 56 (by decide));exact X9 Nd RA (by decide) ([]:Ah5) (XW (hfb.keep (Dz f hC (by omega) (fun k hk=>by have:=co k hk;omega))) cq) (vr (NI 0) rfl) (by omega) fun v h=>⟨AaY _,h⟩
    ·refine Aj rfl fun σ w1 hC h=> ?_;have hC:BX c.heap.size (AbS vo) c w1:=hC;have cr:(fun x w' =>PR (AbK (Bl.getD (0) ([]:Ah5))) x w') (σ 57) w1:=h 57 (by decide);exact Yg cr U7 rfl (by rw[Aa6 hfb ([]:Ah5) (by omega)];exact Rl) ⟨AaY _,rfl⟩
    ·refine Aj rfl fun σ w1 hC h=> ?_;have hC:BX c.heap.size (AbS vo) c w1:=hC;have cs:=AH (h 58 (by decide));exact Yu (a:=(Bl.getD (0) ([]:Ah5))) (enc:=AbK) cs (by rw[AbZ];exact(AC (Aa6 hfb ([]:Ah5) (by omega)))) Ng fun v w2 h hx=>⟨hx,h⟩
    ·refine Aj rfl fun σ w1 hC h=> ?_;have hC:BX c.heap.size (AbS vo) c w1:=hC;have ax:(fun x w' =>FC g.heap.size c.heap.size 33 32 (AbK) (AbS vo) (Ol) x w') (σ 55) w1:=h 55 (by decide);have ct:(fun x w' =>RG 32 (AbK) w' x ([(Bl.getD (0) ([]:Ah5))])) (σ 59) w1:=h 59 (by decide);exact X7 _ _ g.heap.size _ 32 Nd pk6_ig33.choose_spec.1 pk6_ig33.choose_spec.2 Nd (Ol) ([(Bl.getD (0) ([]:Ah5))]) ax.1 ct (fun _ _=>Ag _) (by simp only[Ach,Acl];omega) (by simp only[Ach,Acl];omega) (AbM hsz_ hC.size) fun v w2 ho hg=>⟨Yr hg.by_ hC.size ax.2,ho,fun k hk=>(hg.fresh k hk).elim (ax.2 k) (fun x=> .inr (AbM hC.size x))⟩
    ·refine Aj rfl fun σ w1 hC h=> ?_;have hC:BX c.heap.size (AbS vo) c w1:=hC;have e6:=(AH (h 6 (by decide))).trans j;exact Aa7 e6 ⟨AaY _,rfl⟩
    ·refine Aj rfl fun σ w1 hC h=> ?_;have hC:BX c.heap.size (AbS vo) c w1:=hC;have cu:=AH (h 61 (by decide));exact Y3 Nd RA cu hfb (vr (NI 1) rfl) (by omega) fun v h _=>⟨AaY _,h⟩
    ·refine Aj rfl fun σ w1 hC h=> ?_;have hC:BX c.heap.size (AbS vo) c w1:=hC;have cv:(fun x w' =>FC g.heap.size c.heap.size 33 32 (AbK) (AbS vo) ((Ol)++ [(Bl.getD (0) ([]:Ah5))]) x w') (σ 60) w1:=h 60 (by decide);exact Abb rfl ⟨AaY _,cv⟩
    ·refine Aj rfl fun σ w1 hC h=> ?_;have hC:BX c.heap.size (AbS vo) c w1:=hC;have cw:(fun x _=>RG 32 (AbK) g x (Bl.drop (1))) (σ 62) w1:=h 62 (by decide);exact Abb rfl ⟨AaY _,cw⟩
   intro z ay cx he hf;obtain⟨-,-,-,-,-,-,-,-,k7,k6,-⟩:=hf;obtain⟨p,q,r,i,cl,-⟩:=he.hold [(0,_),(1,_),(4,_),(5,_),(37, .bool (true))] ⟨p,q,r,i,rfl,trivial⟩ rfl;clear he;have k7:(fun x w' =>FC g.heap.size c.heap.size 33 32 (AbK) (AbS vo) ((Ol)++ [(Bl.getD (0) ([]:Ah5))]) x w') (z 7) ay:=k7;obtain⟨bd,o⟩:∃v,z 7=v:=⟨_,rfl⟩;rw[o]at k7;have be:Grew c ay vo bd:=⟨cx.grown,k7.2⟩;have cy:=k7.1;clear k7;have hE:=hE.trans hZ2;have hE:=Ao hE be hfo.2 t;have f:=Ao f be hfo.2 (AbO _);clear hfo;have k6:(fun x _=>RG 32 (AbK) g x (Bl.drop (1))) (z 6) ay:=k6;obtain⟨cz,j⟩:∃v,z 6=v:=⟨_,rfl⟩;rw[j]at k6;have bf:=k6;clear k6;refine gX (gK (Acr ⟨va,cz,Al,Bl.drop (1),(Ol)++ [(Bl.getD (0) ([]:Ah5))],bd,p,q,r,i,j,o,hE,f,hfa,bf,cy,hMI.right (by omega) (by omega) an,trivial⟩ ?_));show BF (z 5)+BF (z 6)<BF (ab 5)+BF (ab 6);rw[i,j,q5,q6];have n5:=hfa.sliceLen;have n6:=bf.sliceLen
   try rw[n5]
   try rw[n6]
   try rw[qa]
   try rw[qb]
   simp only[Ab6];omega
  refine gS (X6 Nd (XW (hfa.keep f) i) (gS (XQ (a:=(Al.length:Nat)) (b:=(0:Nat)) rfl rfl (Bh _ _ _ _) (kT (hga) (gS (X6 Nd (XW (hfb.keep f) j) (gS (XQ (a:=(Bl.length:Nat)) (b:=(0:Nat)) rfl rfl (Bh _ _ _ _) (kF (hgb) (gS (XY rfl rfl (cF rfl (gS (X7 _ _ g.heap.size _ 32 Nd pk6_ig33.choose_spec.1 pk6_ig33.choose_spec.2 Nd (Ol) (Al) (Abf hfo o) (XW (hfa.keep f) i) (fun _ _=>Ag _) (by omega) (by omega) f.size fun az bg ae af=> ?_))))))))))))));have af:Grew a7 bg vo az:= .eqv o af;have hE:=Ao hE af hfo.2 t;have f:=Ao f af hfo.2 (AbO _);clear hfo;refine gS (X7 _ _ g.heap.size _ 32 Nd pk6_ig33.choose_spec.1 pk6_ig33.choose_spec.2 Nd ((Ol)++Al) (Bl) (Abf ae (vr az rfl)) (XW (hfb.keep f) j) (fun _ _=>Ag _) (by simp only[AbP];omega) (by simp only[AbP];omega) f.size fun bh c0 c1 ag=> ?_);have ag:Grew bg c0 az bh:=ag;have hE:=Ao hE ag ae.2 t;have f:=Ao f ag ae.2 (AbO _);clear ae;refine Bp rfl (vr bh rfl) ?_;obtain⟨hpm,hasc⟩:=hMI.done (by omega);exact⟨_,_,rfl,OG.base c1 (by omega),hpm,hasc,hE⟩
 refine gS (X6 Nd (XW (hfa.keep f) i) (gS (XQ (a:=(Al.length:Nat)) (b:=(0:Nat)) rfl rfl (Bh _ _ _ _) (kF (hga) (gS (X2 rfl rfl (cF rfl (gS (X7 _ _ g.heap.size _ 32 Nd pk6_ig33.choose_spec.1 pk6_ig33.choose_spec.2 Nd (Ol) (Al) (Abf hfo o) (XW (hfa.keep f) i) (fun _ _=>Ag _) (by omega) (by omega) f.size fun a0 bi ah ai=> ?_)))))))));have ai:Grew a7 bi vo a0:= .eqv o ai;have hE:=Ao hE ai hfo.2 t;have f:=Ao f ai hfo.2 (AbO _);clear hfo;refine gS (X7 _ _ g.heap.size _ 32 Nd pk6_ig33.choose_spec.1 pk6_ig33.choose_spec.2 Nd ((Ol)++Al) (Bl) (Abf ah (vr a0 rfl)) (XW (hfb.keep f) j) (fun _ _=>Ag _) (by simp only[AbP];omega) (by simp only[AbP];omega) f.size fun bj c2 c3 aj=> ?_);have aj:Grew bi c2 a0 bj:=aj;have hE:=Ao hE aj ah.2 t;have f:=Ao f aj ah.2 (AbO _);clear ah;refine Bp rfl (vr bj rfl) ?_;obtain⟨hpm,hasc⟩:=hMI.done (by omega);exact⟨_,_,rfl,OG.base c3 (by omega),hpm,hasc,hE⟩
theorem RE:∀(n:Nat) (l:List Bs),l.length=n->l.length<=1048576->∀(w:AbJ) (v:AbI),RG 32 AbK w v l->Calls AbL 99 #[v, .func (.func 100) #[] #[]] w fun e w' =>∃v' m,e = .returned v' /\OG w.heap.size 33 32 AbK w' v' m/\m.Perm l/\C1 m/\Ext w w' :=by
 intro n
 induction n using Nat.strongRecOn with
 | _ n ih=>exact fun l hn hlim w v hr=>PZ n (fun l' hl w v hr=>ih l'.length hl l' rfl (by omega) w v hr) l hn hlim w v hr
theorem Nh(w:AbJ)(v:AbI)(l:List Bs)(hlim:l.length<=1048576)(hr:RG 32 AbK w v l):
  Calls AbL 55 #[v] w fun e w' =>∃v',e = .returned v' /\OG w.heap.size 33 32 AbK w' v' (AJ l)/\Ext w w' :=by
 refine gG (args:= [v]) Tryz.func55 rfl 5 rfl rfl ?_;have hE:=AaY w;refine gS (XS JI rfl rfl ((RE _ l rfl hlim _ v hr).mono ?_));rintro e g ⟨a,m4,rfl,b,c,ha7,f⟩;refine⟨_,rfl,?_⟩;have hms:=Rp ha7 c;subst hms;refine Bp rfl (vr a rfl) ?_;have hE:=hE.trans f;exact⟨_,rfl,b,hE⟩
theorem P0(w:AbJ)(va vb:AbI)(a b:Ah5)(hra:RB w va a)(hrb:RB w vb b)(hal:a.length<=4611686018427387904):
  Calls AbL 183 #[va,vb] w fun e w' =>e = .returned (NI (CL a b))/\Ext w w' :=by
 refine gG (args:= [va,vb]) Tryz.func183 rfl 30 rfl rfl ?_;have hE:=AaY w;refine gL (fun(ρ:Ac) (wz:AbJ)=>∃i:Nat,ρ 0=(va:AbI)/\ρ 1=(vb:AbI)/\ρ 4=(NI 0:AbI)/\ρ 5=(NI i:AbI)/\Ext w wz/\(i<=a.length)/\(i<=b.length)/\(CL a b=i+CL (a.drop i) (b.drop i))/\True) (fun ρ _=>a.length-(intOf (ρ 5)).toNat) ⟨0,rfl,rfl,rfl,rfl,hE,Ack _,Ack _,by simp,trivial⟩ ?_;clear hE;rintro p v ⟨i,f,g,q,c,hE,hia,hib,hlc,-⟩;have q5:=c;by_cases h1:i<a.length
 ·by_cases h2:i<b.length
  ·by_cases h3:a.getD i 0=b.getD i 0
   ·refine CA [0,1,2,3,4,5,6,7,8,9,10,11,12,13,14,15,16,17,18,19,20] [] [] fun x r=> ?_;have hE:=hE.trans r;refine ys (XZ F7 (XV (hra.keep hE) f) zz) (ys (XQ (a:=(i:Nat)) (b:=(a.length:Nat)) c rfl (AK _ _ _ _) zz) (kT (h1) (ys (XZ F7 (XV (hrb.keep hE) g) zz) (ys (XQ (a:=(i:Nat)) (b:=(b.length:Nat)) c rfl (AK _ _ _ _) zz) (kT (h2) (ys (XY rfl rfl zz) (yA (Yd (l:=a) (i:=i) F7 PO (XV (hra.keep hE) f) c (h1) fun y k=>(ys (X4 u5 rfl (Yb k rfl) zz) (yA (Yd (l:=b) (i:=i) F7 PO (XV (hrb.keep hE) g) c (h2) fun z m=>(ys (X4 u5 rfl (Yb m rfl) zz) (ys (XQ (a:=((a.getD (i) 0).toNat:Nat)) (b:=((b.getD (i) 0).toNat:Nat)) rfl rfl (AI _ _ _ _) zz) (kT (congrArg UInt8.toNat h3) (ys (XY rfl rfl zz) ?_)))))))))))))));clear k;clear m;refine cT rfl (gS (XR (xv:=NI i) (yv:=NI 1) c rfl rfl (Ah _ _ _ (by omega)) (gK (Acr ⟨i+1,f,g,q,rfl,hE,by omega,by omega,by rw[hlc,Th h1 h2 h3];omega,trivial⟩ ?_))));show a.length-(intOf (NI ((i)+(1)))).toNat<a.length-(intOf (p 5)).toNat;rw[q5];simp only[intOf,Ab0];omega
   have j:=WB h1 h2 h3;refine CA [0,1,2,3,4,5,6,7,8,9,10,11,12,13,14,15,16,17,18,19,20] [] [] fun aa s=> ?_;have hE:=hE.trans s;refine ys (XZ F7 (XV (hra.keep hE) f) zz) (ys (XQ (a:=(i:Nat)) (b:=(a.length:Nat)) c rfl (AK _ _ _ _) zz) (kT (h1) (ys (XZ F7 (XV (hrb.keep hE) g) zz) (ys (XQ (a:=(i:Nat)) (b:=(b.length:Nat)) c rfl (AK _ _ _ _) zz) (kT (h2) (ys (XY rfl rfl zz) (yA (Yd (l:=a) (i:=i) F7 PO (XV (hra.keep hE) f) c (h1) fun ab n=>(ys (X4 u5 rfl (Yb n rfl) zz) (yA (Yd (l:=b) (i:=i) F7 PO (XV (hrb.keep hE) g) c (h2) fun ac o=>(ys (X4 u5 rfl (Yb o rfl) zz) (ys (XQ (a:=((a.getD (i) 0).toNat:Nat)) (b:=((b.getD (i) 0).toNat:Nat)) rfl rfl (AI _ _ _ _) zz) (kF (fun h=>h3 (UInt8.toNat_inj.1 h)) (ys (XY rfl rfl zz) ?_)))))))))))))));clear n;clear o;refine cF rfl (Bp rfl c ?_);rw[hlc,j];exact⟨rfl,hE⟩
  have j:=Tj (a:=a) (i:=i) (b:=b) (by omega);refine CA [0,1,2,3,4,5,6,7,8,9,10,11,12,13,14,15,16,17,18,19,20] [] [] fun ad t=> ?_;have hE:=hE.trans t;refine ys (XZ F7 (XV (hra.keep hE) f) zz) (ys (XQ (a:=(i:Nat)) (b:=(a.length:Nat)) c rfl (AK _ _ _ _) zz) (kT (h1) (ys (XZ F7 (XV (hrb.keep hE) g) zz) (ys (XQ (a:=(i:Nat)) (b:=(b.length:Nat)) c rfl (AK _ _ _ _) zz) (kF (by omega) (ys (XY rfl rfl zz) (ys (X2 rfl rfl zz) (cF rfl (Bp rfl c ?_)))))))));rw[hlc,j];exact⟨rfl,hE⟩
 have j:=Ti (a:=a) (i:=i) (b:=b) (by omega);refine CA [0,1,2,3,4,5,6,7,8,9,10,11,12,13,14,15,16,17,18,19,20] [] [] fun ae u=> ?_;have hE:=hE.trans u;refine ys (XZ F7 (XV (hra.keep hE) f) zz) (ys (XQ (a:=(i:Nat)) (b:=(a.length:Nat)) c rfl (AK _ _ _ _) zz) (kF (by omega) (ys (X2 rfl rfl zz) (ys (X2 rfl rfl zz) (cF rfl (Bp rfl c ?_))))));rw[hlc,j];exact⟨rfl,hE⟩
open Go.WideMaps (KeyLaw)
structure IX (w0 w : AbJ) (b base : Nat) (I : AbQ) (G : Ah5 -> List Nat) : Prop where
 ext:Ext w0 w
 lo:w0.heap.size<=b
 hb:base<=w.heap.size
 idx:IdxAt w b base I G
structure IXO (w0 w : AbJ) (b base : Nat) (I : AbQ) (G : Ah5 -> List Nat) (r : Ah5) (v : AbI) (zs : List Nat) (st : Nat) : Prop where
 ext:Ext w0 w
 lo:w0.heap.size<=b
 hb:base<=w.heap.size
 opn:IdxOpen w b base I G r v zs st
section
variable {P : Program} {K : AbI -> AbJ -> Prop} {ρ : Ac} {w w' : AbJ} {d : Option Tmp} {ty : AbQ} {pos : String} {af : Array Edge} {gd : Option (Nat × Bool)}
variable {w0 : AbJ} {b base : Nat} {I : AbQ} {G : Ah5 -> List Nat} {r : Ah5} {v : AbI} {zs : List Nat} {st : Nat}
theorem IX.keep(h:IX w0 w b base I G)(k:Ext w w'):IX w0 w' b base I G:=⟨h.ext.trans k,h.lo,AbM h.hb k.size,h.idx.keep k⟩
theorem Yk.makeMap{t:AbQ}(hk:∀b w',w.heap.size=b->IX w w' b (b+1) I (fun _=> [])->K (.map (some b)) w'):Yk P K ((execOp (Aa ρ) ⟨d, .makeMap t none,ty,pos,af,gd⟩).run P w):=by
 refine Aa4 (v:= .map (some w.heap.size)) (w' :=w.alloc (.map #[] 0)) ?_ (hk _ _ rfl ⟨(Below.refl _ _).alloc (AbO _) _,AbO _,by simp,Z7 w⟩);unfold execOp;simp only[Option.map_none,AbY,run_makeMap,AbU,Ab1]
theorem Yk.entry{t Kt E:AbQ}(L:KeyLaw P Kt)(hkr:∀r:Ah5,r.length=8->∃l,keyOf P Kt (rk r)=some l)(ht:P.underlying t=some (.map Kt E))(hz:∀u:AbJ,(zeroValue E).run P u = .ok (.slice none 0 0) u){x y:AbV} 
  (hm:Aa ρ x = .map (some b)) (hy:Aa ρ y=rk r) (h:IX w0 w b base I G) (hr:r.length=8) (hk:∀v st w1,IXO w0 w1 b base I G r v (G r) st->w.grownBy w1 (some b)->K (.tuple #[v,NI st]) w1):
  Yk P K ((execOp (Aa ρ) ⟨d, .mapEntry t x y,ty,pos,af,gd⟩).run P w):=by
 obtain⟨v,st,w1,hrun,hg,hs,ho⟩:=h.idx.entry L hkr ht hz hr;refine Aa4 (v:= .tuple #[v,NI st]) (w' :=w1) ?_ (hk v st w1 ⟨Below.grown h.ext hg h.ext.size (fun k hk=>by cases hk;exact h.lo),h.lo,by rw[hs];exact h.hb,ho⟩ hg);unfold execOp;simp only[hm,hy,AbY,hrun,AbU,Ab1];rfl
theorem Yk.entryStore{t:AbQ}{x s y:AbV}(hm:Aa ρ x = .map (some b))(hs:Aa ρ s=NI st)(hy:Aa ρ y=v)(h:IXO w0 w b base I G r v zs st)(hne:zs≠ [])(hk:∀w1,IX w0 w1 b base I (updG G r zs)->K undef w1):
  Yk P K ((execOp (Aa ρ) ⟨d, .entryStore t x s y,ty,pos,af,gd⟩).run P w):=by
 obtain⟨w1,hrun,hg,hsz,ho⟩:=h.opn.store (P:=P) (t:=t) hne;have hrun' :(Instr.entryStore t (.map (some b)) (NI st) v).run P w = .ok () w1:=hrun;have hK:=hk w1 ⟨Below.grown h.ext hg h.ext.size (fun k hk=>by cases hk;exact h.lo),h.lo,by rw[hsz];exact h.hb,ho⟩;unfold execOp;simp only[hm,hs,hy,AbY,hrun',AbU,Ab1];exact hK
theorem IXO.own(h:IXO w0 w b base I G r v zs st):w.ownsRow base I 1 v zs.length (zs.map NI):=h.opn.2.2.1
theorem IXO.grew{v' :AbI}{zs' :List Nat}(h:IXO w0 w b base I G r v zs st)(gr:Grew w w' v v')(ho:w'.ownsRow base I 1 v' zs'.length (zs'.map NI)):IXO w0 w' b base I G r v' zs' st:=
 ⟨Below.grown h.ext gr.by_ h.ext.size (fun k hk=>AbM h.lo (AbM (Nat.le_of_lt h.opn.1) (h.own.lt k hk).1)),h.lo,AbM h.hb gr.by_.size,h.opn.grew gr ho⟩
theorem ZJ{t e:AbQ}{n:Nat}(ht:P.underlying t=some (.array n e)){x:AbV}{l:Ah5}(h:RB w (Aa ρ x) l)(hl:l.length=n)(hn:0<n)(hk:∀g o,w.rangeAt g o (AbK l)->K (.pointer (some ⟨g,o,none⟩)) w):
  Yk P K ((execOp (Aa ρ) ⟨d, .sliceToArrayPointer t x,ty,pos,af,gd⟩).run P w):=by
 obtain⟨g,o,cap,hv,h1,h2,h3,h4⟩:=h.open_ (by omega);refine Aa4 (v:= .pointer (some ⟨g,o,none⟩)) (w' :=w) ?_ (hk g o fun j v hj=> ?_)
 ·unfold execOp;simp only[hv,Instr.arrayAt,AbY,run_underlying ht,AbU];rw[if_neg (by omega)];rfl
 ·have hj' :j<l.length:=by simpa [AbK] using (List.getElem?_eq_some_iff.1 hj).1
  rw[h4 j hj',<-hj];simp[AbK,hj',List.getD]
theorem Yk.look{t Kt E:AbQ}(L:KeyLaw P Kt)(hkr:∀r:Ah5,r.length=8->∃l,keyOf P Kt (rk r)=some l)(ht:P.underlying t=some (.map Kt E))(hz:∀u:AbJ,(zeroValue E).run P u = .ok (.slice none 0 0) u){x y:AbV} 
  (hm:Aa ρ x = .map (some b)) (hy:Aa ρ y=rk r) (h:IdxAt w b base I G) (hr:r.length=8) (hk:∀v,w.ownsRow base I 1 v (G r).length ((G r).map NI)->K v w):
  Yk P K ((execOp (Aa ρ) ⟨d, .lookup t x y false,ty,pos,af,gd⟩).run P w):=by
 obtain⟨v,hrun,ho⟩:=h.look L hkr ht hz hr;refine Aa4 (v:=v) (w' :=w) ?_ (hk v ho);unfold execOp;simp only[hm,hy,AbY,hrun,AbU,Ab1]
end
def posOf(l:Ah5)(k:Nat)(r:Ah5):List Nat:=(List.range k).filter fun j=>(l.drop j).take 8==r
theorem RF(l:Ah5)(k:Nat):updG (posOf l k) ((l.drop k).take 8) (posOf l k ((l.drop k).take 8)++ [k])=posOf l (k+1):=by
 funext s
 unfold updG posOf;rw[List.range_succ,List.filter_append];by_cases h:s=(l.drop k).take 8
 ·subst h;rw[if_pos rfl];simp
 ·rw[if_neg h];have:((l.drop k).take 8==s)=false:=by simpa using fun e=>h e.symm
  simp[this]
theorem P1(l:Ah5):posOf l 0=fun _=> []:=by
 funext s
 rfl
theorem posOf_length(l:Ah5)(k:Nat)(r:Ah5):(posOf l k r).length<=k:=by
 have:=List.length_filter_le (fun j=>(l.drop j).take 8==r) (List.range k);rw[List.length_range]at this;exact this
theorem RH:KeyLaw AbL 273:=deep_law_laid (by kernel_rfl) (m:=3) (by decide) (of_decide_eq_true (by kernel_rfl)) (by kernel_rfl) (by kernel_rfl)
theorem RI:∀r:Ah5,r.length=8->∃l,keyOf AbL 273 (rk r)=some l:=fun _ h=>
 LJ (n:=8) (e:=5) Tryz.underlying273 Afa (by kernel_rfl) (by kernel_rfl) (by kernel_rfl) (of_decide_eq_true (by kernel_rfl)) h
theorem Ni:∀u:AbJ,(zeroValue 22).run AbL u = .ok (.slice none 0 0) u:=fun _=>by kernel_rfl
theorem Xc:(Tryz.prog.info? 3).map (fun i=>(i.zero,i.size,i.bytes))=some (some (.int .i64 0),1,8):=by kernel_rfl
theorem GO:(Tryz.prog.info? 273).map (·.size)=some 8:=by kernel_rfl
theorem Hr:Tryz.prog.underlying 273=some (.array 8 5):=by kernel_rfl
theorem P2{d:Option Tmp}{ty:AbQ}{pos:String}{af:Array Edge}{gd:Option (Nat × Bool)}(σ:AbV->AbI)(w:AbJ):(execOp σ ⟨d, .alloc 273,ty,pos,af,gd⟩).run AbL w = .ok (.value (PQ w.heap.size 0)) (w.alloc (.cells (AbK (AbX 8 0)).toArray 273)):=by kernel_rfl
theorem P3(z:Int)(w:AbJ):(Acq 22 1 #[(0, .int .i64 z)]).run AbL w = .ok (.slice (some ⟨w.heap.size,0,none⟩) 1 1) (w.alloc (.cells #[.int .i64 z] 3)):=by kernel_rfl
theorem AaO{P:Program}{K:AbI->AbJ->Prop}{ρ:Ac}{w:AbJ}{d:Option Tmp}{ty:AbQ}{pos:String}{af:Array Edge}{gd:Option (Nat × Bool)}{t e:AbQ}{x:AbV}{z:Nat}(hx:Aa ρ x=NI z)(hr:∀w:AbJ,(Acq t 1 #[(0, .int .i64 z)]).run P w = .ok (.slice (some ⟨w.heap.size,0,none⟩) 1 1) (w.alloc (.cells #[.int .i64 z] e)))(hk:∀b w',w.heap.size=b->w'.heap[b]? =some (.cells #[.int .i64 z] e (0,0))->Ext w w' ->w'.heap.size=b+1->K (.slice (some ⟨b,0,none⟩) 1 1) w'):Yk P K ((execOp (Aa ρ) ⟨d, .buildSlice t 1 #[(0,x)],ty,pos,af,gd⟩).run P w):=AaK (cs:= #[.int .i64 z]) (fun w=>(by simp only[Acp,Aco,Acz,hx]:_=_).trans (hr w)) hk
theorem P4:Tryz.prog.underlying 270=some (.map 273 22):=by kernel_rfl
theorem LL:Tryz.prog.underlying 22=some (.slice 3):=by kernel_rfl
theorem RJ(w:AbJ)(v:AbI)(l:Ah5)(hr:RB w v l)(hl:l.length<=1048576):
  Calls AbL 181 #[v] w fun e w' =>∃b base,e = .returned (.map (some b))/\IX w w' b base 3 (posOf l (l.length-7)):=by
 refine gG (args:= [v]) Tryz.func181 rfl 30 rfl rfl ?_;have hE:=AaY w;refine gS (Yk.makeMap (I:=3) fun h w4 an hX6=> ?_);have hX6:=(P1 l)▸hX6;have hE:=hX6.ext;refine gL (fun(ρ:Ac) (wz:AbJ)=>∃i:Nat,ρ 0=(v:AbI)/\ρ 2=((Value.map none):AbI)/\ρ 3=(.map (some h):AbI)/\ρ 4=(NI i:AbI)/\Ext w wz/\IX w wz h (h+1) 3 (posOf l i)/\(i<=l.length-7)/\True) (fun ρ _=>l.length-(intOf (ρ 4)).toNat) ⟨0,rfl,rfl,rfl,rfl,hE,hX6,Ack _,trivial⟩ ?_;clear hX6;clear hE;rintro x y ⟨i,m,T2,k,g,hE,hXi,hil,-⟩;have q4:=g;refine gS (XR (xv:=NI i) (yv:=NI 8) g rfl rfl (Ah _ _ _ (by omega)) (gS (XZ F7 (XV (hr.keep hE) m) (gS (XQ (a:=((i)+(8):Nat)) (b:=(l.length:Nat)) rfl rfl (Dw _ _ _ _) ?_)))));refine cD rfl (fun h8=> ?_) fun h8=> ?_
 ·have hrl:((l.drop i).take (i+8-i)).length=8:=by rw[Ab5,Ab6];omega
  have hrl8:((l.drop i).take 8).length=8:=by rw[Ab5,Ab6];omega
  refine gS (XR (xv:=NI i) (yv:=NI 8) g rfl rfl (Ah _ _ _ (by omega)) (gS (YO (xs:=l) (l:=i) (n:=(i)+(8)) F7 PO m (hr.keep hE) g rfl (by omega) (by omega) fun ao ab ha17=>(gS (ZJ Hr (XV ab rfl) (l:=(l.drop (i)).take (((i)+(8))-(i))) (n:=8) (by rw[Ab5,Ab6];omega) (by decide) fun ap aq ac=>(gS (Ym rfl ac Hr rfl (by rw[AbZ,hrl];exact GO) (gS (Aa3 P2 fun o ad ar r ae au=> ?_)))))))));have c:=AaY y;have av:=hE.size;have f:=r;clear r;have aw:o<ad.heap.size:=by omega
  refine gS (XT (vr (PQ o 0) rfl) (vr (AB ((l.drop (i)).take (((i)+(8))-(i)))) rfl) f (by simp only[Ab4,AbZ,hrl];rfl) (by simp only[Ab4,AbZ,hrl];exact GO) (Ag _) fun af s ag ax=> ?_);clear f;have f:=s;clear s;have ay:=bl f;have f:af.heap[o]? =some (.cells (AbK ((l.drop i).take 8)).toArray 273 (0,0)):=AW f (by rw[show i+8-i=8 by omega]);refine gS (XU rfl f Hr rfl (by simp only[Ab4,AbZ,hrl8];exact GO) (gS (AaO (z:=i) g (fun w=>P3 _ w) fun p az a0 ah ai a1=> ?_)));have hb1i:=ah;have c:=c.trans ae;have c:=Ab c ag (AbM (AbO _) (by omega));have c:=c.trans ai;refine gS (Yk.entry RH RI P4 Ni k rfl (hXi.keep c) hrl8 fun q t a2 hX46 aj=> ?_);have hE:=hE.trans c;have hE:=hX46.ext;clear f;have hb1i:=(Eq.trans (aj.block p (bl hb1i) (by have h1:=hXi.idx.lt;simp;omega)) hb1i);refine gS (AaZ (vs:= [q,NI t]) rfl rfl (gS (Yk.append _ _ (h+1) 3 (.int .i64 0) 1 8 LL Xc rfl (posOf l i ((l.drop i).take 8)).length ((posOf l i ((l.drop i).take 8)).map NI) (CV hX46.own (vr q rfl)) 1 [NI i] (show Src _ _ _ _ _ _ _ from by rw[(vr (.slice (some ⟨p,0,none⟩) 1 1) rfl)];exact(Src.ofSlice _ LL ⟨p,0,none⟩ 1 1 [NI i] rfl (fun j u hu=>by rw[Addr.add_lit,Ac2];exact cellAt (l:= [NI i]) hb1i hu) (fun u hu=>by rw[AbW.1 hu];rfl))) (by have:=posOf_length l i ((l.drop i).take 8);unfold maxLen;omega) (by have:=posOf_length l i ((l.drop i).take 8);omega) hX46.hb fun a3 a4 ak al=> ?_)));have hX52:=IXO.grew (zs' :=posOf l i ((l.drop i).take 8)++ [i]) hX46 al (by rw[AbP,List.map_append];exact ak);have hE:=hX52.ext;clear hX46;refine gS (AaZ (vs:= [q,NI t]) rfl rfl (gS (Yk.entryStore k rfl rfl hX52 (by simp) fun a5 hX54=> ?_)));have hX54:=(RF l i)▸hX54;have hE:=hX54.ext;clear hX52;refine gS (XR (xv:=NI i) (yv:=NI 1) g rfl rfl (Ah _ _ _ (by omega)) (gK (Acr ⟨i+1,m,T2,k,rfl,hE,hX54,by omega,trivial⟩ ?_)));show l.length-(intOf (NI ((i)+(1)))).toNat<l.length-(intOf (x 4)).toNat;rw[q4];simp only[intOf,Ab0];omega
 have hik:i=l.length-7:=by omega
 refine Bp rfl k ?_;rw[hik]at hXi;exact⟨_,_,rfl,hXi⟩
structure MKD (w0 wI w : AbJ) (lo g3 g5 g7 : Nat) (vt vc v : AbI) (o : Ah5) (fr : Nat) : Prop where
 ext:Ext w0 w
 b3:w.heap[g3]? =some (.cells #[vt] 27 (0,0))
 b5:w.heap[g5]? =some (.cells #[vc] 27 (0,0))
 b7:w.heap[g7]? =some (.cells #[NI fr] 3 (0,0))
 own:w.ownsRow w0.heap.size 5 1 v o.length (AbK o)
 fz:∀k,lo<=k->k<wI.heap.size->w.heap[k]? =wI.heap[k]?
 apz:∀k,v.ownBlock=some k->k<lo\/wI.heap.size<=k
 l3:w0.heap.size<=g3
 l5:w0.heap.size<=g5
 l7:w0.heap.size<=g7
 o3:g3<lo
 o5:g5<lo
 o35:g3≠g5
 o7:wI.heap.size<=g7
 oi:lo<=wI.heap.size
 os:wI.heap.size<=w.heap.size
theorem E9{w:AbJ}{b:Nat}{e t:AbQ}{z n g:Nat}{v:AbI}{xs:List AbI}{cs:Array AbI}{fr:Nat × Nat}(ho:w.ownsRow b e z v n xs)(hb:w.heap[g]? =some (.cells cs t fr))(hne:e≠t):v.ownBlock≠some g:=fun h=>by
 rcases ho.2 with ⟨rfl,_⟩ | ⟨g',cap,cur,rfl,_,hg,_⟩
 ·cases h
 ·have:g' =g:=by simpa [AbS] using h
  subst this;rw[hg]at hb;simp only[Option.some.injEq,Obj.cells.injEq]at hb;exact hne hb.2.1
section
variable {w0 wI w w' : AbJ} {lo g3 g5 g7 : Nat} {vt vc v : AbI} {o : Ah5} {fr : Nat}
theorem MKD.keep(h:MKD w0 wI w lo g3 g5 g7 vt vc v o fr)(k:Ext w w'):MKD w0 wI w' lo g3 g5 g7 vt vc v o fr:=
 ⟨h.ext.trans k,Abk k h.b3,Abk k h.b5,Abk k h.b7,Aa5 _ _ _ _ _ _ _ _ h.own k,fun i h1 h2=>(k.block i (AcE h2 h.os)).trans (h.fz i h1 h2),h.apz,h.l3,h.l5,h.l7,h.o3,h.o5,h.o35,h.o7,h.oi,AbM h.os k.size⟩
theorem MKD.grew{v' :AbI}{o' :Ah5}(h:MKD w0 wI w lo g3 g5 g7 vt vc v o fr)(gr:Grew w w' v v')(ho:w'.ownsRow w0.heap.size 5 1 v' o'.length (AbK o')):MKD w0 wI w' lo g3 g5 g7 vt vc v' o' fr:=
 ⟨Ao h.ext gr h.own (AbO _),Ar h.b3 gr (E9 h.own h.b3 (by decide)),Ar h.b5 gr (E9 h.own h.b5 (by decide)),Ar h.b7 gr (E9 h.own h.b7 (by decide)),ho,
  fun i h1 h2=>(gr.by_.block i (AcE h2 h.os) (fun e=>by rcases h.apz i e.symm with h3 | h3 <;> omega)).trans (h.fz i h1 h2),
  fun k hk=>(gr.fresh k hk).elim (h.apz k) (fun h3=> .inr (AbM h.os h3)),h.l3,h.l5,h.l7,h.o3,h.o5,h.o35,h.o7,h.oi,AbM h.os gr.by_.size⟩
abbrev Abz:=@MKD.grew
theorem Y7(h:MKD w0 wI w lo g3 g5 g7 vt vc v o fr)(hb:w'.heap[g5]? =some (.cells #[v] 27 (0,0)))(hg:w.grownBy w' (some g5)):MKD w0 wI w' lo g3 g5 g7 vt v v o fr:=
 have lt:=fun {k:Nat} {x:Obj} (hx:w.heap[k]? =some x)=>(Ace.1 hx).1;have h57:g7≠g5:=by have:=h.o5;have:=h.o7;have:=h.oi;omega
 ⟨Below.grown h.ext hg h.ext.size (fun k hk=>by cases hk;exact h.l5),(hg.block g3 (lt h.b3) (by simp[h.o35])).trans h.b3,hb,(hg.block g7 (lt h.b7) (by simp[h57])).trans h.b7,
  BK h.own hg (E9 h.own h.b5 (by decide)),fun i h1 h2=>(hg.block i (AcE h2 h.os) (fun e=>by cases e;have:=h.o5;omega)).trans (h.fz i h1 h2),h.apz,h.l3,h.l5,h.l7,h.o3,h.o5,h.o35,h.o7,h.oi,AbM h.os hg.size⟩
theorem ZK{n:Nat}(h:MKD w0 wI w lo g3 g5 g7 vt vc v o fr)(hb:w'.heap[g7]? =some (.cells #[NI n] 3 (0,0)))(hg:w.grownBy w' (some g7)):MKD w0 wI w' lo g3 g5 g7 vt vc v o n:=
 have lt:=fun {k:Nat} {x:Obj} (hx:w.heap[k]? =some x)=>(Ace.1 hx).1;have h57:g5≠g7:=by have:=h.o5;have:=h.o7;have:=h.oi;omega
 have h37:g3≠g7:=by have:=h.o3;have:=h.o7;have:=h.oi;omega
 ⟨Below.grown h.ext hg h.ext.size (fun k hk=>by cases hk;exact h.l7),(hg.block g3 (lt h.b3) (by simp[h37])).trans h.b3,(hg.block g5 (lt h.b5) (by simp[h57])).trans h.b5,hb,
  BK h.own hg (E9 h.own h.b7 (by decide)),fun i h1 h2=>(hg.block i (AcE h2 h.os) (fun e=>by cases e;have:=h.o7;omega)).trans (h.fz i h1 h2),h.apz,h.l3,h.l5,h.l7,h.o3,h.o5,h.o35,h.o7,h.oi,AbM h.os hg.size⟩
theorem MKD.idx{b base:Nat}{I:AbQ}{G:Ah5->List Nat}(h:MKD w0 wI w lo g3 g5 g7 vt vc v o fr)(hI:IdxAt wI b base I G)(hb:lo<=b):IdxAt w b base I G:=by
 obtain⟨h1,es,c,h2,h3⟩:=hI;refine⟨h1,es,c,(h.fz b hb (Ace.1 h2).1).trans h2,h3.born,h3.nodup,h3.keys,fun e he=> ?_,h3.all,h3.apart⟩;obtain⟨q,k1,k2,k3,k4⟩:=h3.ent e he;refine⟨q,k1,k2,k3,k4.1,?_⟩;rcases k4.2 with h5 | ⟨g,cap,cur,a,hbg,hg,r⟩
 ·exact .inl h5
 ·exact .inr ⟨g,cap,cur,a,hbg,(h.fz g (by omega) (Ace.1 hg).1).trans hg,r⟩
end
def Cj(T:Ah5)(fr to:Nat)(o:Ah5):Ah5:=if fr<to then o++Ab3 (2*(to-fr))++(T.drop fr).take (to-fr)else o
theorem Kn:(Tryz.prog.info? 27).map (·.size)=some 1:=by kernel_rfl
theorem P5:Plain AbL 180:=fun _ _=>by kernel_rfl
theorem Ik(w0 wI w:AbJ)(lo g3 g5 g7:Nat)(vt v:AbI)(o T:Ah5)(fr to:Nat)(hM:MKD w0 wI w lo g3 g5 g7 vt v v o fr)(hT:RB w0 vt T)(hto:to<=T.length)(hfr:fr<=T.length)(hTl:T.length<=1048576)(hol:o.length<=1073741824):
  Calls AbL 182 #[NI to,PQ g7 0,PQ g5 0,PQ g3 0] w fun e w' =>e = .returned (.tuple #[])/\∃v',MKD w0 wI w' lo g3 g5 g7 vt v' v' (Cj T fr to o) fr:=by
 have av:w.heap[g3]? =some (.cells ([vt]:List AbI).toArray 27 (0,0)):=hM.b3;have u:w.heap[g5]? =some (.cells ([v]:List AbI).toArray 27 (0,0)):=hM.b5;have q:w.heap[g7]? =some (.cells ([NI (fr)]:List AbI).toArray 3 (0,0)):=hM.b7;have aw:=hT.keep hM.ext;refine gG (args:= [NI to,PQ g7 0,PQ g5 0,PQ g3 0]) Tryz.func182 rfl 20 rfl rfl (gS (XP Tk rfl rfl (cellAt q rfl) (gS (XQ (a:=(to:Nat)) (b:=(fr:Nat)) rfl rfl (Bh _ _ _ _) ?_))));refine cD rfl (fun hc=> ?_) fun hc=> ?_
 ·have ax:=Bj (2*(to-fr)) (by omega);refine gS (XP F7 rfl rfl (cellAt u rfl) (gS (XP Tk rfl rfl (cellAt q rfl) (gS (XR (xv:=NI to) (yv:=NI fr) rfl rfl rfl (BB _ _ _ (by omega) (by omega)) (gS (XR (xv:=NI 2) (yv:=NI ((to)-(fr))) rfl rfl rfl (Ci _ _ _ (by omega)) (gS (XS P5 rfl rfl ((Ds _ w0.heap.size v (o) hM.own hM.ext.size ((2)*((to)-(fr))) (by omega) (by omega)).mono ?_))))))))));rintro e g ⟨c,rfl,y,z⟩;refine⟨_,rfl,?_⟩;have hM10:=Abz hM z y;clear hM;have ay:g.heap[g3]? =some (.cells ([vt]:List AbI).toArray 27 (0,0)):=hM10.b3;have az:g.heap[g5]? =some (.cells ([v]:List AbI).toArray 27 (0,0)):=hM10.b5;have a0:g.heap[g7]? =some (.cells ([NI (fr)]:List AbI).toArray 3 (0,0)):=hM10.b7;have a1:=hT.keep hM10.ext;refine gS (X5 (i:=0) (v:=c) rfl rfl hM10.b5 (Ab2 rfl) Kn (B7 hM10.own).1 (B7 hM10.own).2 fun j aa ab a2=> ?_);have hM20:=Y7 hM10 aa ab;clear hM10;have ac:j.heap[g3]? =some (.cells ([vt]:List AbI).toArray 27 (0,0)):=hM20.b3;have ad:j.heap[g5]? =some (.cells ([c]:List AbI).toArray 27 (0,0)):=hM20.b5;have ae:j.heap[g7]? =some (.cells ([NI (fr)]:List AbI).toArray 3 (0,0)):=hM20.b7;have af:=hT.keep hM20.ext;refine gR ?_;refine Mx 5 _ [4] [Is (c),Is (vt),Is (NI fr),Is (NI to),fun x w' =>RB w' x ((T.drop (fr)).take ((to)-(fr))),fun x w' =>MKD w0 wI w' lo g3 g5 g7 vt c x ((o++Ab3 ((2)*((to)-(fr))))++(T.drop (fr)).take ((to)-(fr))) (fr)] (by kernel_rfl) [14,15,16,17,18,19] (by kernel_rfl) (by kernel_rfl) (by kernel_rfl) (by kernel_rfl) (by kernel_rfl) rfl rfl rfl rfl (Wv ⟨(fun _ _ _ h k=>Abx h k),trivial⟩) ⟨.inr (X0 _), .inr (X0 _), .inr (X0 _), .inr (X0 _), .inl rfl,trivial⟩ ?ag ?hQ1002
  case ag=>
   refine⟨?_,?_,?_,?_,?_,?_,?_,trivial⟩
   ·refine Dy (Aj rfl fun σ w1 hC h=> ?_);have e2:σ 2=PQ g5 0:=(AH (h 2 (by decide))).trans rfl;exact XP F7 rfl e2 (cellAt (eb hC ad) (show _=some (c:AbI)from rfl)) ⟨AaY _,rfl⟩
   ·refine Dy (Aj rfl fun σ w1 hC h=> ?_);have e3:σ 3=PQ g3 0:=(AH (h 3 (by decide))).trans rfl;exact XP F7 rfl e3 (cellAt (eb hC ac) (show _=some (vt:AbI)from rfl)) ⟨AaY _,rfl⟩
   ·refine Dy (Aj rfl fun σ w1 hC h=> ?_);have e1:σ 1=PQ g7 0:=(AH (h 1 (by decide))).trans rfl;exact XP Tk rfl e1 (cellAt (eb hC ae) (show _=some (NI fr:AbI)from rfl)) ⟨AaY _,rfl⟩
   ·refine Dy (Aj rfl fun σ w1 hC h=> ?_);have e0:σ 0=NI to:=(AH (h 0 (by decide))).trans rfl;exact Aa7 e0 ⟨AaY _,rfl⟩
   ·refine Dy (Aj rfl fun σ w1 hC h=> ?_);have al:=AH (h 15 (by decide));have am:=AH (h 16 (by decide));have an:=AH (h 17 (by decide));exact YO (xs:=T) (l:=fr) (n:=to) F7 PO rfl (XV (af.keep hC) al) am an (by omega) (by omega) fun v hr _=>⟨AaY _,hr⟩
   ·refine Dy (Aj rfl fun σ w1 hC h=> ?_);have r:=AH (h 14 (by decide));have ao:(fun x w' =>RB w' x ((T.drop (fr)).take ((to)-(fr)))) (σ 18) w1:=h 18 (by decide);have hM1:=hM20.keep hC;exact Yh _ _ w0.heap.size (.int .u8 0) F7 MM rfl F7 (o++Ab3 ((2)*((to)-(fr)))) ((T.drop (fr)).take ((to)-(fr))) (CV hM1.own r) ao (by simp only[AbP,Ab5,Ab6];omega) hM1.ext.size fun x w2 ho hg=>⟨trivial,Abz hM1 (r▸hg) ho⟩
   ·exact trivial
  intro s ap he hf;obtain⟨-,-,-,-,-,k19,-⟩:=hf;obtain⟨T0,T1,T2,T3,-⟩:=he.hold [(0,NI to),(1,PQ g7 0),(2,PQ g5 0),(3,PQ g3 0)] ⟨rfl,rfl,rfl,rfl,trivial⟩ rfl;clear he;have k19:(fun x w' =>MKD w0 wI w' lo g3 g5 g7 vt c x ((o++Ab3 ((2)*((to)-(fr))))++(T.drop (fr)).take ((to)-(fr))) (fr)) (s 19) ap:=k19;obtain⟨m,t⟩:∃v,s 19=v:=⟨_,rfl⟩;rw[t]at k19;have f:=k19;clear k19;refine(X5 (i:=0) (v:=m) T2 t f.b5 (Ab2 rfl) Kn (B7 f.own).1 (B7 f.own).2 fun p ar au a6=> ?_);have hM34:=Y7 f ar au;clear f;have a7:p.heap[g3]? =some (.cells ([vt]:List AbI).toArray 27 (0,0)):=hM34.b3;have a8:p.heap[g5]? =some (.cells ([m]:List AbI).toArray 27 (0,0)):=hM34.b5;have a9:p.heap[g7]? =some (.cells ([NI (fr)]:List AbI).toArray 3 (0,0)):=hM34.b7;have ba:=hT.keep hM34.ext;refine gX (rt0 rfl ?_);refine⟨rfl,m,?_⟩;rw[Cj,if_pos hc];exact hM34
 refine rt0 rfl ?_;refine⟨rfl,v,?_⟩;rw[Cj,if_neg (by omega)];exact hM
section
variable {P : Program} {K : AbI -> AbJ -> Prop} {ρ : Ac} {w : AbJ} {d : Option Tmp} {ty : AbQ} {pos : String} {af : Array Edge} {gd : Option (Nat × Bool)}
theorem Aas{t e c:AbQ}(ht:P.underlying t=some (.slice c)){x:AbV}{b z n:Nat}{xs:List AbI}(h:w.ownsRow b e z (Aa ρ x) n xs)(hk:K (NI n) w):Yk P K ((execOp (Aa ρ) ⟨d, .call ⟨.builtin .len,#[x],#[t]⟩,ty,pos,af,gd⟩).run P w):=by
 rcases h.2 with ⟨a,h0⟩ | ⟨g,cap,cur,a,-⟩
 ·subst h0;exact YZ ht a hk
 ·exact YZ ht a hk
theorem AaE{t e c:AbQ}(ht:P.underlying t=some (.slice c))(he:∀w' :AbJ,(sizeOf c).run P w' = .ok 1 w'){x y:AbV}{b:Nat}{xs:List AbI}(h:w.ownsRow b e 1 (Aa ρ x) xs.length xs){k:IntKind}{i:Nat}(hy:Aa ρ y = .int k (i:Int))(hi:i<xs.length) 
  (hk:∀v,PCell (xs.getD i undef) v w->K v w):Yk P K ((execOp (Aa ρ) ⟨d, .indexAddr t x y,ty,pos,af,gd⟩).run P w):=by
 rcases h.2 with ⟨a,h0⟩ | ⟨g,cap,cur,a,-⟩
 ·omega
 ·have hc:=h.cells (g:=g) (by rw[a];rfl) i (xs.getD i undef) (by simp[hi]);rw[Addr.add_lit]at hc;exact Y4 ht he a hy hi (hk _ ⟨_,rfl,hc⟩)
end
def En(B T:Ah5)(i:Nat)(pn:Nat × Nat)(q:Nat):Nat × Nat:=if pn.2<CL (B.drop q) (T.drop i)then(q,CL (B.drop q) (T.drop i))else pn
def BT(B T:Ah5)(i:Nat):Nat × Nat:=if i+8<=T.length then(posOf B (B.length-7) ((T.drop i).take 8)).foldl (En B T i) (0,0)else(0,0)
def C6(B T:Ah5):Nat->Nat->Nat->Ah5->Ah5
 | 0,_,fr,o=>Cj T fr T.length o
 | f+1,i,fr,o=>if i<T.length then(if(BT B T i).2=0 then C6 B T f (i+1) fr o
  else C6 B T f (i+(BT B T i).2) (i+(BT B T i).2) (Cj T fr i o++Ab3 (2*(BT B T i).2+1)++Ab3 (BT B T i).1))else Cj T fr T.length o
def BV(B T:Ah5):Ah5:=C6 B T T.length 0 0 (Ab3 B.length++Ab3 T.length)
theorem ED(T:Ah5)(fr to:Nat)(o:Ah5)(ht:to<=1048576):(Cj T fr to o).length<=o.length+(to-fr)+9:=by
 unfold Cj;split
 ·have:=Bj (2*(to-fr)) (by omega);simp only[AbP,Ab5,Ab6];omega
 ·omega
theorem Gv{α:Type}(f:α->Nat->α)(a:α)(zs:List Nat)(j:Nat)(h:j<zs.length):(zs.take (j+1)).foldl f a=f ((zs.take j).foldl f a) (zs.getD j 0):=by
 rw[Acn h,List.foldl_append];simp[h]
theorem Vs(zs:List Nat)(j:Nat)(h:j<zs.length):(zs.map NI).getD j undef=NI (zs.getD j 0):=by simp[h]
theorem P6{B T:Ah5}{f i fr:Nat}{o:Ah5}(h:¬i<T.length):C6 B T f i fr o=Cj T fr T.length o:=by
 cases f with
 | zero=>rfl
 | succ f=>rw[C6,if_neg h]
theorem Tp{B:Ah5}{k:Nat}{r:Ah5}{j:Nat}(h:j<(posOf B k r).length):(posOf B k r).getD j 0<k:=by
 have hm:(posOf B k r).getD j 0∈posOf B k r:=by
  rw[AbN,AbT h];exact List.getElem_mem h
 unfold posOf at hm;rw[Adr,Afz]at hm;exact hm.1
theorem RK{d:Option Tmp}{ty:AbQ}{pos:String}{af:Array Edge}{gd:Option (Nat × Bool)}(σ:AbV->AbI)(w:AbJ):(execOp σ ⟨d, .alloc 27,ty,pos,af,gd⟩).run AbL w = .ok (.value (PQ w.heap.size 0)) (w.alloc (.cells ([.slice none 0 0]:List AbI).toArray 27)):=by kernel_rfl
theorem P7:Plain AbL 181:=fun _ _=>by kernel_rfl
theorem Tq{d:Option Tmp}{ty:AbQ}{pos:String}{af:Array Edge}{gd:Option (Nat × Bool)}(σ:AbV->AbI)(w:AbJ):(execOp σ ⟨d, .alloc 3,ty,pos,af,gd⟩).run AbL w = .ok (.value (PQ w.heap.size 0)) (w.alloc (.cells ([NI 0]).toArray 3)):=by kernel_rfl
theorem P8:Plain AbL 183:=fun _ _=>by kernel_rfl
theorem Hs:Plain AbL 182:=fun _ _=>by kernel_rfl
theorem Tr(w:AbJ)(vb q:AbI)(B T:Ah5)(hrb:RB w vb B)(hrt:RB w q T)(hB:B.length<=1048576)(hTl:T.length<=1048576):
  Calls AbL 145 #[vb,q] w fun e w' =>∃v',e = .returned v' /\Ext w w' /\w'.ownsRow w.heap.size 5 1 v' (BV B T).length (AbK (BV B T)):=by
 refine gG (args:= [vb,q]) Tryz.func145 rfl 83 rfl rfl ?_;have hE:=AaY w;refine gS (YF (vr q rfl) (Aa8 (hrt.keep hE)).1 fun c u dq ac b9 dr=> ?_);have ap:=ac;clear ac;have ds:c<u.heap.size:=by omega
 have ak:=AaY u;have hE:=hE.trans b9;have ca:=hE.size;have hAS:=ak;refine gR ?_;have dt:c<u.heap.size:=(bl ap);refine My 5 7 _ [2] (fun a b=>Below u.heap.size a b/\∀(g:Nat) (cs:Array AbI),a.heap[g]? =some (.cells cs 27 (0,0))->b.heap[g]? =some (.cells cs 27 (0,0))) [Is (vb),Is (NI B.length),fun x w' =>w'.ownsRow u.heap.size 5 1 x (([]:Ah5)++Ab3 B.length).length (AbK (([]:Ah5)++Ab3 B.length)),Is (q),Is (NI T.length),fun x w' =>w'.ownsRow u.heap.size 5 1 x (([]++Ab3 B.length)++Ab3 T.length).length (AbK (([]++Ab3 B.length)++Ab3 T.length)),fun x w' =>∃g:Nat,x=PQ g 0/\u.heap.size<=g/\w'.heap[g]? =some (.cells #[.slice none 0 0] 27 (0,0))] (by kernel_rfl) [15,16,17,18,19,20,5] (by kernel_rfl) (by kernel_rfl) (by kernel_rfl) (by kernel_rfl) rfl rfl rfl (by decide) rfl (LD ⟨(fun _ _ _ h k=>Aa5 _ _ _ _ _ _ _ _ h k),(LD ⟨(fun _ _ _ h k=>Aa5 _ _ _ _ _ _ _ _ h k),(fun _ _ _ ⟨g,h1,h2,h3⟩ k=>⟨g,h1,h2,eb k h3⟩),trivial⟩)⟩) ⟨.inr (X0 _), .inr (X0 _), .inl rfl, .inr (X0 _), .inr (X0 _), .inl rfl, .inr ((fun _ _ _ ⟨g,h1,h2,h3⟩ k=>⟨g,h1,h2,k.2 _ _ h3⟩)),trivial⟩ (fun _ _ h k=>Below.trans h k.1) ?cb ?hQ3001
 case cb=>
  refine⟨?_,?_,?_,?_,?_,?_,?_,?_,trivial⟩
  ·refine Dy (Aj rfl fun σ w1 hC h=> ?_);have e0:σ 0=vb:=(AH (h 0 (by decide))).trans rfl;exact Aa7 e0 ⟨AaY _,rfl⟩
  ·refine Dy (Aj rfl fun σ w1 hC h=> ?_);have cc:=AH (h 15 (by decide));exact XZ F7 (XV (hrb.keep (hE.trans hC)) cc) ⟨AaY _,rfl⟩
  ·refine Dy (Aj rfl fun σ w1 hC h=> ?_);have cd:=AH (h 16 (by decide));have hC:Ext u w1:=hC;have al:w1.ownsRow u.heap.size 5 1 (.slice none 0 0) ([]:Ah5).length (AbK ([]:Ah5)):=AcH _ _ _ 1;refine XS P5 rfl cd ((Ds w1 u.heap.size (.slice none 0 0) [] al hC.size B.length (by omega) (by simp)).mono ?_);rintro e w2 ⟨v',rfl,ho,hg⟩;exact⟨_,rfl,Zl hg.by_,ho⟩
  ·refine Dy (Aj rfl fun σ w1 hC h=> ?_);have e3:σ 3=PQ c 0:=(AH (h 3 (by decide))).trans rfl;exact XP F7 rfl e3 (cellAt (eb hC ap) (show _=some (q:AbI)from rfl)) ⟨AaY _,rfl⟩
  ·refine Dy (Aj rfl fun σ w1 hC h=> ?_);have ce:=AH (h 18 (by decide));exact XZ F7 (XV (hrt.keep (hE.trans hC)) ce) ⟨AaY _,rfl⟩
  ·refine Dy (Aj rfl fun σ w1 hC h=> ?_);have ba:(fun x w' =>w'.ownsRow u.heap.size 5 1 x (([]:Ah5)++Ab3 B.length).length (AbK (([]:Ah5)++Ab3 B.length))) (σ 17) w1:=h 17 (by decide);have cf:=AH (h 19 (by decide));have hC:Ext u w1:=hC;refine XS P5 rfl cf ((Ds w1 u.heap.size (σ 17) (([]:Ah5)++Ab3 B.length) ba hC.size T.length (by omega) (by have:=Bj B.length (by omega);simp;omega)).mono ?_);rintro e w2 ⟨v',rfl,ho,hg⟩;exact⟨_,rfl,⟨hg.below hC.size (fun k hk=>(World.ownsRow.lt ba k hk).1),fun g cs h=>Ar h hg (E9 ba h (by decide))⟩,ho⟩
  ·refine Dy (Aj rfl fun σ w1 hC h=> ?_);have hC:Ext u w1:=hC;exact Aa3 (cs:=([.slice none 0 0]:List AbI).toArray) RK fun g w2 hn hb hx hs=>⟨hx,g,rfl,by have:=hC.size;omega,hb⟩
  ·exact trivial
 intro a2 bs bt he hf;obtain⟨-,-,-,-,-,k20,k5,-⟩:=hf;obtain⟨y,T1,s,T4,-⟩:=he.hold [(0,vb),(1,q),(3,PQ c 0),(4,(AbR none 0 0))] ⟨rfl,rfl,rfl,rfl,trivial⟩ rfl;clear he;have k20:(fun x w' =>w'.ownsRow u.heap.size 5 1 x (([]++Ab3 B.length)++Ab3 T.length).length (AbK (([]++Ab3 B.length)++Ab3 T.length))) (a2 20) bs:=k20;obtain⟨ay,bu⟩:∃v,a2 20=v:=⟨_,rfl⟩;rw[bu]at k20;have am:=k20;clear k20;have k5:(fun x w' =>∃g:Nat,x=PQ g 0/\u.heap.size<=g/\w'.heap[g]? =some (.cells #[.slice none 0 0] 27 (0,0))) (a2 5) bs:=k5;obtain⟨du,r⟩:∃v,a2 5=v:=⟨_,rfl⟩;rw[r]at k5;have cg:=k5;clear k5;obtain⟨g5,hv5,hlo5,ac⟩:=cg;rw[hv5]at r;have ch:OB ay g5:=E9 am ac (by decide);refine(X5 (i:=0) (v:=ay) r bu ac (Ab2 rfl) Kn (B7 am).1 (B7 am).2 fun au bv bb dv=> ?_);clear ac;have ac:=bv;clear bv;have dw:=bl ac;refine gX ?_;have hE:=hE.trans bt;have hE:=Ab hE bb (AbM ca (by omega));have ak:=ak.trans bt;have ak:=Ab ak bb (AbM (AbO _) (by omega));have dx:=hE.size;have dy:=ak.size;have ap:=eb ak ap;have hq3:=(bl ap);have hq5:=(bl ac);have am:=BK am bb ch;have hoP:=am;have hzP:=hE.size;have hzS:=hAS.size;refine gS (XX P7 y ((RJ _ vb B (hrb.keep hE) (by omega)).mono ?_));rintro e aq ⟨bM,baseM,rfl,hX⟩;refine⟨_,rfl,?_⟩;have hzI:=hX.ext.size;have ar:=AaY aq;have hE:=hE.trans hX.ext;have ak:=ak.trans hX.ext;have ci:=hE.size;have dz:=ak.size;refine gS (Aa3 Tq fun m cj d0 bw bx d1=> ?_);have az:=bw;clear bw;have d2:m<cj.heap.size:=by omega
 refine gS (X5 (i:=0) (v:=NI 0) rfl rfl az (Ab2 rfl) Nf rfl rfl fun ck bz b0 d3=> ?_);clear az;have az:=bz;clear bz;have d4:=bl az;refine gS (Yx (vs:= #[PQ m 0,PQ g5 0,PQ c 0]) (by simp only[Acp,Aco,Acz];exact congrArg Adh (U3 (vr (PQ m 0) rfl) r s)) ?_);have ar:=ar.trans bx;have ar:=Ab ar b0 (AbM (AbO _) (by omega));have ap:=eb (hX.ext.trans ar) ap;have am:=Aa5 _ _ _ _ _ _ _ _ am (hX.ext.trans ar);have ac:=eb (hX.ext.trans ar) ac;have hE:=hE.trans bx;have hE:=Ab hE b0 (AbM ci (by omega));have hM0:MKD w aq ck au.heap.size c g5 m q ay ay (([]++Ab3 B.length)++Ab3 T.length) (0):=⟨hE,ap,ac,az,BJ am (by omega),fun k h1 h2=>ar.block k h2,fun k hk=> .inl (hoP.lt k hk).2,by omega,by omega,by omega,hq3,hq5,by omega,by omega,by omega,by omega⟩;have hT:=hrt;refine gL (fun(ρ:Ac) (wz:AbJ)=>∃ia:Nat,∃fr:Nat,∃f:Nat,∃o:Ah5,∃v:AbI,ρ 0=(vb:AbI)/\ρ 1=(q:AbI)/\ρ 3=(PQ c 0:AbI)/\ρ 4=((AbR none 0 0):AbI)/\ρ 5=(PQ g5 0:AbI)/\ρ 6=(.map (some bM):AbI)/\ρ 7=(PQ m 0:AbI)/\ρ 8=(.func (.func 182) #[] #[PQ m 0,PQ g5 0,PQ c 0]:AbI)/\ρ 9=(NI ia:AbI)/\Ext w wz/\MKD w aq wz au.heap.size c g5 m q v v (o) (fr)/\(C6 B T f ia fr o=BV B T)/\(T.length<=ia+f)/\(fr<=ia)/\(ia<=T.length)/\(o.length<=20+40*fr)/\True) (fun ρ _=>T.length-(intOf (ρ 9)).toNat) ⟨0,0,T.length,([]++Ab3 B.length)++Ab3 T.length,ay,y,T1,s,T4,r,rfl,rfl,rfl,rfl,hE,hM0,(show C6 B T T.length 0 0 _=_ from by rw[BV,AcO]),by omega,AbO _,Ack _,by have:=Bj B.length (by omega);have:=Bj T.length (by omega);simp only[AbP,Acl];omega,trivial⟩ ?_;clear hM0;clear hE;rintro a3 bc ⟨ia,fr,f,o,v,y,T1,s,T4,r,T6,T7,T8,t,hE,hM,hgo,hf,hfr,hat,hol,-⟩;have q9:=t;have z:bc.heap[c]? =some (.cells ([q]:List AbI).toArray 27 (0,0)):=hM.b3;have an:bc.heap[g5]? =some (.cells ([v]:List AbI).toArray 27 (0,0)):=hM.b5;have ao:bc.heap[m]? =some (.cells ([NI (fr)]:List AbI).toArray 3 (0,0)):=hM.b7;refine gS (XP F7 rfl s (cellAt z rfl) (gS (XZ F7 (XV (hrt.keep hE) rfl) (gS (XQ (a:=(ia:Nat)) (b:=(T.length:Nat)) t rfl (AK _ _ _ _) ?_)))));refine cD rfl (fun aw=> ?_) fun aw=> ?_
 ·obtain⟨f',rfl⟩:∃f',f=f' +1:=⟨f-1,by omega⟩;refine gS (XR (xv:=NI ia) (yv:=NI 8) t rfl rfl (Ah _ _ _ (by omega)) (gS (XP F7 rfl s (cellAt z rfl) (gS (XZ F7 (XV (hrt.keep hE) rfl) (gS (XQ (a:=((ia)+(8):Nat)) (b:=(T.length:Nat)) rfl rfl (Dw _ _ _ _) ?_)))))));refine cD rfl (fun bd=> ?_) fun bd=> ?_
  ·have hrl:((T.drop ia).take (ia+8-ia)).length=8:=by rw[Ab5,Ab6];omega
   have hrl8:((T.drop ia).take 8).length=8:=by rw[Ab5,Ab6];omega
   refine gS (XP F7 rfl s (cellAt z rfl) (gS (XR (xv:=NI ia) (yv:=NI 8) t rfl rfl (Ah _ _ _ (by omega)) (gS (YO (xs:=T) (l:=ia) (n:=(ia)+(8)) F7 PO rfl (hrt.keep hE) t rfl (by omega) (by omega) fun cl ai ha74=>(gS (ZJ Hr (XV ai rfl) (l:=(T.drop (ia)).take (((ia)+(8))-(ia))) (n:=8) (by rw[Ab5,Ab6];omega) (by decide) fun d5 d6 cm=>(gS (Ym rfl (show World.rangeAt _ _ _ (AbK ((T.drop ia).take 8))from by simpa only[AdT] using cm) Hr rfl (by rw[AbZ,hrl8];exact GO) (gS (Yk.look RH RI P4 Ni T6 rfl (MKD.idx hM hX.idx hX.lo) hrl8 fun b1 ag=>(gS (Aas LL (CV ag rfl) (gL (fun(ρ:Ac) (wz:AbJ)=>∃j:Nat,∃p:Nat,∃n:Nat,ρ 0=(vb:AbI)/\ρ 1=(q:AbI)/\ρ 3=(PQ c 0:AbI)/\ρ 4=((AbR none 0 0):AbI)/\ρ 5=(PQ g5 0:AbI)/\ρ 6=(.map (some bM):AbI)/\ρ 7=(PQ m 0:AbI)/\ρ 8=(.func (.func 182) #[] #[PQ m 0,PQ g5 0,PQ c 0]:AbI)/\ρ 9=(NI ia:AbI)/\ρ 41=(b1:AbI)/\ρ 42=(NI ((posOf B (B.length-7) ((T.drop ia).take 8)).length):AbI)/\ρ 43=(NI j:AbI)/\ρ 10=(NI p:AbI)/\ρ 11=(NI n:AbI)/\Ext w wz/\MKD w aq wz au.heap.size c g5 m q v v (o) (fr)/\wz.heap[c]? =some (.cells ([q]:List AbI).toArray 27 (0,0))/\wz.heap[g5]? =some (.cells ([v]:List AbI).toArray 27 (0,0))/\wz.heap[m]? =some (.cells ([NI (fr)]:List AbI).toArray 3 (0,0))/\RB wz cl ((T.drop (ia)).take (((ia)+(8))-(ia)))/\wz.ownsRow baseM 3 1 b1 (posOf B (B.length-7) ((T.drop ia).take 8)).length ((posOf B (B.length-7) ((T.drop ia).take 8)).map NI)/\(j<=(posOf B (B.length-7) ((T.drop ia).take 8)).length)/\(((posOf B (B.length-7) ((T.drop ia).take 8)).take j).foldl (En B T ia) (0,0)=(p,n))/\(p<=B.length)/\(n<=T.length-ia)/\True) (fun ρ _=>(posOf B (B.length-7) ((T.drop ia).take 8)).length-(intOf (ρ 43)).toNat) ⟨0,0,0,y,T1,s,T4,r,T6,T7,T8,t,rfl,rfl,rfl,rfl,rfl,hE,hM,z,an,ao,ai,ag,Ack _,rfl,Ack _,Ack _,trivial⟩ ?_))))))))))))));clear hE hM z an ao ai ag;rintro b2 d7 ⟨j,p,n,y,T1,s,T4,r,T6,T7,T8,t,a0,a1,av,ax,aj,hE,hM,z,an,ao,ai,ag,hjl,hbp,hp,hn,-⟩;have q43:=av;refine gS (XQ (a:=(j:Nat)) (b:=((posOf B (B.length-7) ((T.drop ia).take 8)).length:Nat)) av a1 (AK _ _ _ _) ?_);refine cD rfl (fun hj=> ?_) fun hj=> ?_
   ·have hq:=Tp hj;have hpl:=posOf_length B (B.length-7) ((T.drop ia).take 8);refine gS (AaE (xs:=(posOf B (B.length-7) ((T.drop ia).take 8)).map NI) LL G2 (by rw[Ab9];exact CV ag a0) av (by rw[Ab9];exact hj) fun d8 be=> ?_);rw[Vs _ _ hj]at be;refine gS (X4 Tk rfl (Yb be rfl) ?_);clear be;refine gR ?_;refine Hf [Is (vb),Is (NI ((posOf B (B.length-7) ((T.drop ia).take 8)).getD j 0)),fun x w' =>RB w' x (B.drop ((posOf B (B.length-7) ((T.drop ia).take 8)).getD j 0)),Is (q),Is (NI ia),fun x w' =>RB w' x (T.drop (ia)),Is (NI (CL (B.drop ((posOf B (B.length-7) ((T.drop ia).take 8)).getD j 0)) (T.drop (ia)))),Is (NI (CL (B.drop ((posOf B (B.length-7) ((T.drop ia).take 8)).getD j 0)) (T.drop (ia))))] (by kernel_rfl) [47,48,49,50,51,52,53,14] (by kernel_rfl) (by kernel_rfl) (LD ⟨(fun _ _ _ h k=>Abx h k),(LD ⟨(fun _ _ _ h k=>Abx h k),(LD trivial)⟩)⟩) ?cn ?hQ4012
    case cn=>
     refine⟨?_,?_,?_,?_,?_,?_,?_,?_,trivial⟩
     ·refine Aj rfl fun σ w1 hC h=> ?_;have e0:=(AH (h 0 (by decide))).trans y;exact Aa7 e0 ⟨AaY _,rfl⟩
     ·refine Aj rfl fun σ w1 hC h=> ?_;have co:σ 13=NI ((posOf B (B.length-7) ((T.drop ia).take 8)).getD j 0):=(AH (h 13 (by decide))).trans rfl;exact Aa7 co ⟨AaY _,rfl⟩
     ·refine Aj rfl fun σ w1 hC h=> ?_;have cp:=AH (h 47 (by decide));have cq:=AH (h 48 (by decide));exact Yn (xs:=B) (l:=(posOf B (B.length-7) ((T.drop ia).take 8)).getD j 0) F7 PO rfl (XV (hrb.keep (hE.trans hC)) cp) cq (by omega) fun v hr _=>⟨AaY _,hr⟩
     ·refine Aj rfl fun σ w1 hC h=> ?_;have e3:=(AH (h 3 (by decide))).trans s;exact XP F7 rfl e3 (cellAt (eb hC z) (show _=some (q:AbI)from rfl)) ⟨AaY _,rfl⟩
     ·refine Aj rfl fun σ w1 hC h=> ?_;have e9:=(AH (h 9 (by decide))).trans t;exact Aa7 e9 ⟨AaY _,rfl⟩
     ·refine Aj rfl fun σ w1 hC h=> ?_;have ct:=AH (h 50 (by decide));have cu:=AH (h 51 (by decide));exact Yn (xs:=T) (l:=ia) F7 PO rfl (XV (hrt.keep (hE.trans hC)) ct) cu (by omega) fun v hr _=>⟨AaY _,hr⟩
     ·refine Aj rfl fun σ w1 hC h=> ?_;have cv:(fun x w' =>RB w' x (B.drop ((posOf B (B.length-7) ((T.drop ia).take 8)).getD j 0))) (σ 49) w1:=h 49 (by decide);have cw:(fun x w' =>RB w' x (T.drop (ia))) (σ 52) w1:=h 52 (by decide);refine XS P8 rfl rfl ((P0 _ (σ 49) (σ 52) (B.drop ((posOf B (B.length-7) ((T.drop ia).take 8)).getD j 0)) (T.drop (ia)) cv cw (by simp only[Ab6];omega)).mono ?_);rintro e w2 ⟨rfl,hx⟩;exact⟨_,rfl,hx,rfl⟩
     ·refine Aj rfl fun σ w1 hC h=> ?_;have cx:=AH (h 53 (by decide));exact Abb cx ⟨AaY _,rfl⟩
    intro cy cz ab he hf;obtain⟨-,-,-,-,-,-,-,k14,-⟩:=hf;obtain⟨y,T1,s,T4,r,T6,T7,T8,t,ax,aj,c0,a0,a1,av,-⟩:=he.hold [(0,_),(1,_),(3,_),(4,_),(5,_),(6,_),(7,_),(8,_),(9,_),(10,_),(11,_),(13,NI ((posOf B (B.length-7) ((T.drop ia).take 8)).getD j 0)),(41,_),(42,_),(43,_)] ⟨y,T1,s,T4,r,T6,T7,T8,t,ax,aj,rfl,a0,a1,av,trivial⟩ rfl;clear he;have hM:MKD w aq cz au.heap.size c g5 m q v v (o) (fr):=(hM.keep ab);have b4:cy 14=NI (CL (B.drop ((posOf B (B.length-7) ((T.drop ia).take 8)).getD j 0)) (T.drop (ia))):=k14;clear k14;refine gX (gS (XQ (a:=(CL (B.drop ((posOf B (B.length-7) ((T.drop ia).take 8)).getD j 0)) (T.drop (ia)):Nat)) (b:=(n:Nat)) b4 aj (Bh _ _ _ _) ?_));refine cD rfl (fun bf=> ?_) fun bf=> ?_
    ·have hE:=hE.trans ab;have z:=eb ab z;have an:=eb ab an;have ao:=eb ab ao;have ai:=ai.keep ab;have ag:=Aa5 _ _ _ _ _ _ _ _ ag ab;refine gS (XR (xv:=NI j) (yv:=NI 1) av rfl rfl (Ah _ _ _ (by omega)) (gK (Acr ⟨j+1,(posOf B (B.length-7) ((T.drop ia).take 8)).getD j 0,CL (B.drop ((posOf B (B.length-7) ((T.drop ia).take 8)).getD j 0)) (T.drop ia),y,T1,s,T4,r,T6,T7,T8,t,a0,a1,rfl,c0,b4,hE,hM,z,an,ao,ai,ag,by omega,by rw[Gv _ _ _ _ hj,hbp,En,if_pos bf],by omega,by have:=(Kj (B.drop ((posOf B (B.length-7) ((T.drop ia).take 8)).getD j 0)) (T.drop ia)).2;rw[Ab6]at this;omega,trivial⟩ ?_)));show(posOf B (B.length-7) ((T.drop ia).take 8)).length-(intOf (NI ((j)+(1)))).toNat<(posOf B (B.length-7) ((T.drop ia).take 8)).length-(intOf (b2 43)).toNat;rw[q43];simp only[intOf,Ab0];omega
    have hE:=hE.trans ab;have z:=eb ab z;have an:=eb ab an;have ao:=eb ab ao;have ai:=ai.keep ab;have ag:=Aa5 _ _ _ _ _ _ _ _ ag ab;refine gS (XR (xv:=NI j) (yv:=NI 1) av rfl rfl (Ah _ _ _ (by omega)) (gK (Acr ⟨j+1,p,n,y,T1,s,T4,r,T6,T7,T8,t,a0,a1,rfl,ax,aj,hE,hM,z,an,ao,ai,ag,by omega,by rw[Gv _ _ _ _ hj,hbp,En,if_neg bf],by omega,hn,trivial⟩ ?_)));show(posOf B (B.length-7) ((T.drop ia).take 8)).length-(intOf (NI ((j)+(1)))).toNat<(posOf B (B.length-7) ((T.drop ia).take 8)).length-(intOf (b2 43)).toNat;rw[q43];simp only[intOf,Ab0];omega
   rw[show(posOf B (B.length-7) ((T.drop ia).take 8)).take j=posOf B (B.length-7) ((T.drop ia).take 8)from AcD (by omega)]at hbp;have hbe:BT B T ia=(p,n):=by rw[BT,if_pos bd,hbp]
   refine gS (XQ (a:=(n:Nat)) (b:=(0:Nat)) aj rfl (AI _ _ _ _) ?_);refine cD rfl (fun al=> ?_) fun al=> ?_
   ·refine gS (XR (xv:=NI ia) (yv:=NI 1) t rfl rfl (Ah _ _ _ (by omega)) (gK (Acr ⟨ia+1,fr,f',o,v,y,T1,s,T4,r,T6,T7,T8,rfl,hE,hM,by rw[C6,if_pos aw,if_pos (by rw[hbe];exact al)]at hgo;exact hgo,by omega,by omega,by omega,hol,trivial⟩ ?_)));show T.length-(intOf (NI ((ia)+(1)))).toNat<T.length-(intOf (a3 9)).toNat;rw[q9];simp only[intOf,Ab0];omega
   refine gS (YT Hs (caps:= #[PQ m 0,PQ g5 0,PQ c 0]) T8 #[NI ia,PQ m 0,PQ g5 0,PQ c 0] (by simp only[Acp,Aco,Acz,AdZ,AcM,AcO];exact congrArg Adh (PK t rfl rfl rfl)) ((Ik w aq _ (au.heap.size) c g5 m q v (o) T (fr) (ia) hM hT (by omega) (by omega) (by omega) (by omega)).mono ?_));rintro e bg ⟨rfl,a4,hM98⟩;refine⟨_,rfl,?_⟩;have hE:=hM98.ext;clear ai;clear ag;clear hM;have d9:bg.heap[c]? =some (.cells ([q]:List AbI).toArray 27 (0,0)):=hM98.b3;have c1:bg.heap[g5]? =some (.cells ([a4]:List AbI).toArray 27 (0,0)):=hM98.b5;have ea:bg.heap[m]? =some (.cells ([NI (fr)]:List AbI).toArray 3 (0,0)):=hM98.b7;have hfl:=ED T fr ia o (by omega);have c2:=Bj (2*n+1) (by omega);have c3:=Bj p (by omega);refine gS (XP F7 rfl r (cellAt c1 rfl) (gS (XR (xv:=NI 2) (yv:=NI n) rfl aj rfl (Ci _ _ _ (by omega)) (gS (XR (xv:=NI ((2)*(n))) (yv:=NI 1) rfl rfl rfl (Ah _ _ _ (by omega)) (gS (XS P5 rfl rfl ((Ds _ w.heap.size a4 (Cj T (fr) (ia) (o)) hM98.own hM98.ext.size (((2)*(n))+(1)) (by omega) (by first | omega | (simp only[AbP];omega))).mono ?_))))))));rintro e bh ⟨c4,rfl,c5,c6⟩;refine⟨_,rfl,?_⟩;have hM107:=Abz hM98 c6 c5;have hE:=hM107.ext;clear hM98;have ec:bh.heap[c]? =some (.cells ([q]:List AbI).toArray 27 (0,0)):=hM107.b3;have ed:bh.heap[g5]? =some (.cells ([a4]:List AbI).toArray 27 (0,0)):=hM107.b5;have ee:bh.heap[m]? =some (.cells ([NI (fr)]:List AbI).toArray 3 (0,0)):=hM107.b7;refine gS (XS P5 rfl ax ((Ds _ w.heap.size c4 (Cj T (fr) (ia) (o)++Ab3 (((2)*(n))+(1))) hM107.own hM107.ext.size (p) (by omega) (by first | omega | (simp only[AbP];omega))).mono ?_));rintro e bi ⟨a5,rfl,c7,c8⟩;refine⟨_,rfl,?_⟩;have hM115:=Abz hM107 c8 c7;have hE:=hM115.ext;clear hM107;have ef:bi.heap[c]? =some (.cells ([q]:List AbI).toArray 27 (0,0)):=hM115.b3;have eg:bi.heap[g5]? =some (.cells ([a4]:List AbI).toArray 27 (0,0)):=hM115.b5;have eh:bi.heap[m]? =some (.cells ([NI (fr)]:List AbI).toArray 3 (0,0)):=hM115.b7;refine gS (X5 (i:=0) (v:=a5) r rfl hM115.b5 (Ab2 rfl) Kn (B7 hM115.own).1 (B7 hM115.own).2 fun bj c9 da ei=> ?_);have hM124:=Y7 hM115 c9 da;have hE:=hM124.ext;clear hM115;have ej:bj.heap[c]? =some (.cells ([q]:List AbI).toArray 27 (0,0)):=hM124.b3;have el:bj.heap[g5]? =some (.cells ([a5]:List AbI).toArray 27 (0,0)):=hM124.b5;have em:bj.heap[m]? =some (.cells ([NI (fr)]:List AbI).toArray 3 (0,0)):=hM124.b7;refine gS (XR (xv:=NI ia) (yv:=NI n) t aj rfl (Ah _ _ _ (by omega)) (gS (X5 (i:=0) (v:=NI ((ia)+(n))) T7 rfl hM124.b7 (Ab2 rfl) Nf rfl rfl fun bk db dc en=> ?_)));have hM133:=ZK (n:=(ia)+(n)) hM124 db dc;have hE:=hM133.ext;clear hM124;have eo:bk.heap[c]? =some (.cells ([q]:List AbI).toArray 27 (0,0)):=hM133.b3;have ep:bk.heap[g5]? =some (.cells ([a5]:List AbI).toArray 27 (0,0)):=hM133.b5;have eq:bk.heap[m]? =some (.cells ([NI ((ia)+(n))]:List AbI).toArray 3 (0,0)):=hM133.b7;refine gK (Acr ⟨ia+n,ia+n,f',Cj T (fr) (ia) (o)++Ab3 (((2)*(n))+(1))++Ab3 (p),a5,y,T1,s,T4,r,T6,T7,T8,rfl,hE,hM133,by rw[C6,if_pos aw,if_neg (by rw[hbe];exact al),hbe]at hgo;exact hgo,by omega,by omega,by omega,by have h5:=ED T fr ia o (by omega);have h6:=Bj (2*n+1) (by omega);have h7:=Bj p (by omega);simp only[AbP];omega,trivial⟩ ?_);show T.length-(intOf (NI ((ia)+(n)))).toNat<T.length-(intOf (a3 9)).toNat;rw[q9];simp only[intOf,Ab0];omega
  obtain⟨p,b6⟩:∃p,p=0:=⟨_,rfl⟩;obtain⟨n,hnz⟩:∃n,n=0:=⟨_,rfl⟩;have ax:=(vr (NI 0) rfl).trans (show(Value.int .i64 ((0:Nat):Int))=NI p by rw[b6]);have aj:=(vr (NI 0) rfl).trans (show(Value.int .i64 ((0:Nat):Int))=NI n by rw[hnz]);have hbe:BT B T ia=(p,n):=by rw[BT,if_neg bd,b6,hnz]
  have hp:p<=B.length:=by omega
  have hn:n<=T.length-ia:=by omega
  refine gS (XQ (a:=(n:Nat)) (b:=(0:Nat)) aj rfl (AI _ _ _ _) ?_);refine cD rfl (fun al=> ?_) fun al=> ?_
  ·refine gS (XR (xv:=NI ia) (yv:=NI 1) t rfl rfl (Ah _ _ _ (by omega)) (gK (Acr ⟨ia+1,fr,f',o,v,y,T1,s,T4,r,T6,T7,T8,rfl,hE,hM,by rw[C6,if_pos aw,if_pos (by rw[hbe];exact al)]at hgo;exact hgo,by omega,by omega,by omega,hol,trivial⟩ ?_)));show T.length-(intOf (NI ((ia)+(1)))).toNat<T.length-(intOf (a3 9)).toNat;rw[q9];simp only[intOf,Ab0];omega
  refine gS (YT Hs (caps:= #[PQ m 0,PQ g5 0,PQ c 0]) T8 #[NI ia,PQ m 0,PQ g5 0,PQ c 0] (by simp only[Acp,Aco,Acz,AdZ,AcM,AcO];exact congrArg Adh (PK t rfl rfl rfl)) ((Ik w aq _ (au.heap.size) c g5 m q v (o) T (fr) (ia) hM hT (by omega) (by omega) (by omega) (by omega)).mono ?_));rintro e bm ⟨rfl,a6,hM142⟩;refine⟨_,rfl,?_⟩;have hE:=hM142.ext;clear hM;have er:bm.heap[c]? =some (.cells ([q]:List AbI).toArray 27 (0,0)):=hM142.b3;have dd:bm.heap[g5]? =some (.cells ([a6]:List AbI).toArray 27 (0,0)):=hM142.b5;have es:bm.heap[m]? =some (.cells ([NI (fr)]:List AbI).toArray 3 (0,0)):=hM142.b7;have hfl:=ED T fr ia o (by omega);have c2:=Bj (2*n+1) (by omega);have c3:=Bj p (by omega);refine gS (XP F7 rfl r (cellAt dd rfl) (gS (XR (xv:=NI 2) (yv:=NI n) rfl aj rfl (Ci _ _ _ (by omega)) (gS (XR (xv:=NI ((2)*(n))) (yv:=NI 1) rfl rfl rfl (Ah _ _ _ (by omega)) (gS (XS P5 rfl rfl ((Ds _ w.heap.size a6 (Cj T (fr) (ia) (o)) hM142.own hM142.ext.size (((2)*(n))+(1)) (by omega) (by first | omega | (simp only[AbP];omega))).mono ?_))))))));rintro e bn ⟨de,rfl,df,dh⟩;refine⟨_,rfl,?_⟩;have hM151:=Abz hM142 dh df;have hE:=hM151.ext;clear hM142;have et:bn.heap[c]? =some (.cells ([q]:List AbI).toArray 27 (0,0)):=hM151.b3;have eu:bn.heap[g5]? =some (.cells ([a6]:List AbI).toArray 27 (0,0)):=hM151.b5;have ew:bn.heap[m]? =some (.cells ([NI (fr)]:List AbI).toArray 3 (0,0)):=hM151.b7;refine gS (XS P5 rfl ax ((Ds _ w.heap.size de (Cj T (fr) (ia) (o)++Ab3 (((2)*(n))+(1))) hM151.own hM151.ext.size (p) (by omega) (by first | omega | (simp only[AbP];omega))).mono ?_));rintro e bo ⟨a7,rfl,di,dj⟩;refine⟨_,rfl,?_⟩;have hM159:=Abz hM151 dj di;have hE:=hM159.ext;clear hM151;have ex:bo.heap[c]? =some (.cells ([q]:List AbI).toArray 27 (0,0)):=hM159.b3;have ey:bo.heap[g5]? =some (.cells ([a6]:List AbI).toArray 27 (0,0)):=hM159.b5;have ez:bo.heap[m]? =some (.cells ([NI (fr)]:List AbI).toArray 3 (0,0)):=hM159.b7;refine gS (X5 (i:=0) (v:=a7) r rfl hM159.b5 (Ab2 rfl) Kn (B7 hM159.own).1 (B7 hM159.own).2 fun bp dk dl e1=> ?_);have hM168:=Y7 hM159 dk dl;have hE:=hM168.ext;clear hM159;have e2:bp.heap[c]? =some (.cells ([q]:List AbI).toArray 27 (0,0)):=hM168.b3;have e4:bp.heap[g5]? =some (.cells ([a7]:List AbI).toArray 27 (0,0)):=hM168.b5;have e5:bp.heap[m]? =some (.cells ([NI (fr)]:List AbI).toArray 3 (0,0)):=hM168.b7;refine gS (XR (xv:=NI ia) (yv:=NI n) t aj rfl (Ah _ _ _ (by omega)) (gS (X5 (i:=0) (v:=NI ((ia)+(n))) T7 rfl hM168.b7 (Ab2 rfl) Nf rfl rfl fun bq dm dn e6=> ?_)));have hM177:=ZK (n:=(ia)+(n)) hM168 dm dn;have hE:=hM177.ext;clear hM168;have e7:bq.heap[c]? =some (.cells ([q]:List AbI).toArray 27 (0,0)):=hM177.b3;have e8:bq.heap[g5]? =some (.cells ([a7]:List AbI).toArray 27 (0,0)):=hM177.b5;have fa:bq.heap[m]? =some (.cells ([NI ((ia)+(n))]:List AbI).toArray 3 (0,0)):=hM177.b7;refine gK (Acr ⟨ia+n,ia+n,f',Cj T (fr) (ia) (o)++Ab3 (((2)*(n))+(1))++Ab3 (p),a7,y,T1,s,T4,r,T6,T7,T8,rfl,hE,hM177,by rw[C6,if_pos aw,if_neg (by rw[hbe];exact al),hbe]at hgo;exact hgo,by omega,by omega,by omega,by have h5:=ED T fr ia o (by omega);have h6:=Bj (2*n+1) (by omega);have h7:=Bj p (by omega);simp only[AbP];omega,trivial⟩ ?_);show T.length-(intOf (NI ((ia)+(n)))).toNat<T.length-(intOf (a3 9)).toNat;rw[q9];simp only[intOf,Ab0];omega
 rw[P6 aw]at hgo;refine gS (XP F7 rfl s (cellAt z rfl) (gS (XZ F7 (XV (hrt.keep hE) rfl) (gS (YT Hs (caps:= #[PQ m 0,PQ g5 0,PQ c 0]) T8 #[NI T.length,PQ m 0,PQ g5 0,PQ c 0] (by simp only[Acp,Aco,Acz,AdZ,AcM,AcO];exact congrArg Adh (PK rfl rfl rfl rfl)) ((Ik w aq _ (au.heap.size) c g5 m q v (o) T (fr) (T.length) hM hT (by omega) (by omega) (by omega) (by omega)).mono ?_))))));rintro e br ⟨rfl,b8,hM183⟩;refine⟨_,rfl,?_⟩;have hE:=hM183.ext;clear hM;have fb:br.heap[c]? =some (.cells ([q]:List AbI).toArray 27 (0,0)):=hM183.b3;have dp:br.heap[g5]? =some (.cells ([b8]:List AbI).toArray 27 (0,0)):=hM183.b5;have fc:br.heap[m]? =some (.cells ([NI (fr)]:List AbI).toArray 3 (0,0)):=hM183.b7;refine gS (XP F7 rfl r (cellAt dp rfl) (Bp rfl (vr b8 rfl) ?_));rw[hgo]at hM183;exact⟨_,rfl,hM183.ext,BJ hM183.own (AbO _)⟩
def DL(D:Ah5):Option (Nat × Nat × Nat):=match A3 0 (D.drop 0)with
 | none=>none
 | some (a,k)=>match A3 0 (D.drop (0+k))with
  | none=>none
  | some (b,j)=>some (a,b,0+k+j)
def Ts:Option (Nat × Nat × Nat)->AbI
 | none=> .tuple #[NI 0,NI 0,NI 0,NI 6]
 | some (a,b,n)=> .tuple #[NI a,NI b,NI n,NI 0]
def EX(F:Ah5)(p s nx:Nat):Option (Ah5 × Nat):=if s<1\/F.length<p\/F.length-p<s then none else some ((F.drop p).take s,nx)
def Ca(B D:Ah5)(i:Nat):Option (Ah5 × Nat):=match A3 0 (D.drop i)with
 | none=>none
 | some (x,k)=>if x%2=1 then(match A3 0 (D.drop (i+k))with
  | none=>none
  | some (p,m)=>EX B p (x/2) (i+k+m))else EX D (i+k) (x/2) (i+k+x/2)
def Ck(B D:Ah5)(size:Nat):Nat->Nat->Ah5->Option Ah5
 | 0,_,_=>none
 | f+1,i,o=>if i<D.length then(match Ca B D i with
  | none=>none
  | some (b,nx)=>if size-o.length<b.length then none else Ck B D size f nx (o++b))else if o.length=size then some o else none
def A7(B D:Ah5):Ah5 × Nat:=match DL D with
 | none=>([],6)
 | some (a,b,n)=>if 262144<b then([],2)else if a≠B.length then([],6)else match Ck B D b (D.length+1) n []with
  | none=>([],6)
  | some o=>(o,0)
theorem Nj{D:Ah5}{a b n:Nat}(h:DL D=some (a,b,n)):a<9223372036854775808/\b<9223372036854775808/\n<=D.length:=by
 unfold DL at h;split at h
 ·cases h
 ·rename_i x k hk
  have h1:=CM (a:=0) (by omega) hk;split at h
  ·cases h
  ·rename_i y j hj
   have h2:=CM (a:=0+k) (by omega) hj;simp only[Option.some.injEq,Prod.mk.injEq]at h;obtain⟨rfl,rfl,rfl⟩:=h;omega
theorem LM{F b:Ah5}{p s nx n:Nat}(h:EX F p s nx=some (b,n)):1<=s/\p<=F.length/\s<=F.length-p/\b=(F.drop p).take s/\n=nx:=by
 unfold EX at h;split at h
 ·cases h
 ·simp only[Option.some.injEq,Prod.mk.injEq]at h;exact⟨by omega,by omega,by omega,h.1.symm,h.2.symm⟩
theorem Nk{B D b:Ah5}{i nx:Nat}(hi:i<=D.length)(h:Ca B D i=some (b,nx)):i<nx/\nx<=D.length/\b.length<=B.length+D.length:=by
 unfold Ca at h;split at h
 ·cases h
 ·rename_i x k hk
  have h1:=CM hi hk;split at h
  ·split at h
   ·cases h
   ·rename_i p m hm
    have h2:=CM (a:=i+k) (by omega) hm;obtain⟨c1,c2,c3,rfl,rfl⟩:=LM h;rw[Ab5,Ab6];omega
  ·obtain⟨c1,c2,c3,rfl,rfl⟩:=LM h;rw[Ab5,Ab6];omega
theorem CG:Plain AbL 128:=fun _ _=>by kernel_rfl
theorem LN(w:AbJ)(v:AbI)(D:Ah5)(hr:RB w v D):
  Calls AbL 211 #[v] w fun e w' =>e = .returned (Ts (DL D))/\Ext w w' :=by
 refine gG (args:= [v]) Tryz.func211 rfl 26 rfl rfl ?_;have hE:=AaY w;rcases hgxa:A3 0 (D.drop (0))with _ | ⟨xa,ka⟩
 ·refine gS (XS CG rfl rfl ((MN _ v D (hr.keep hE) (0) (by omega) hgxa).mono ?_));rintro e j ⟨rfl,c⟩;refine⟨_,rfl,?_⟩;have hE:=hE.trans c;refine gS (AaZ (vs:= [NI 0,NI 0,NI 6]) rfl rfl (gS (AaZ (vs:= [NI 0,NI 0,NI 6]) rfl rfl (gS (AaZ (vs:= [NI 0,NI 0,NI 6]) rfl rfl (gS (XQ (a:=(6:Nat)) (b:=(0:Nat)) rfl rfl (AV _ _ _ _) (kT (by decide) (cT rfl (Wz (v:= .tuple #[NI 0,NI 0,NI 0,NI 6]) (vs:= [NI 0,NI 0,NI 0,NI 6]) rfl rfl ⟨rfl,rfl,rfl,rfl,trivial⟩ ?_))))))))));refine⟨?_,hE⟩;rw[DL,hgxa];rfl
 have hqxa:=CM (a:=0) (by omega) hgxa;rcases hgxb:A3 0 (D.drop (0+ka))with _ | ⟨xb,kb⟩
 ·refine gS (XS CG rfl rfl ((Ih _ v D (hr.keep hE) (0) (by omega) xa ka hgxa).mono ?_));rintro e k ⟨rfl,f⟩;refine⟨_,rfl,?_⟩;have hE:=hE.trans f;refine gS (AaZ (vs:= [NI xa,NI ((0)+ka),NI 0]) rfl rfl (gS (AaZ (vs:= [NI xa,NI ((0)+ka),NI 0]) rfl rfl (gS (AaZ (vs:= [NI xa,NI ((0)+ka),NI 0]) rfl rfl (gS (XQ (a:=(0:Nat)) (b:=(0:Nat)) rfl rfl (AV _ _ _ _) (kF (by decide) (cF rfl (gS (XS CG rfl rfl ((MN _ v D (hr.keep hE) ((0)+ka) (by omega) hgxb).mono ?_))))))))))));rintro e l ⟨rfl,g⟩;refine⟨_,rfl,?_⟩;have hE:=hE.trans g;refine gS (AaZ (vs:= [NI 0,NI 0,NI 6]) rfl rfl (gS (AaZ (vs:= [NI 0,NI 0,NI 6]) rfl rfl (gS (AaZ (vs:= [NI 0,NI 0,NI 6]) rfl rfl (gS (XQ (a:=(6:Nat)) (b:=(0:Nat)) rfl rfl (AV _ _ _ _) (kT (by decide) (cT rfl (Wz (v:= .tuple #[NI 0,NI 0,NI 0,NI 6]) (vs:= [NI 0,NI 0,NI 0,NI 6]) rfl rfl ⟨rfl,rfl,rfl,rfl,trivial⟩ ?_))))))))));refine⟨?_,hE⟩;rw[DL,hgxa];simp only;rw[hgxb];rfl
 have hqxb:=CM (a:=0+ka) (by omega) hgxb;refine gS (XS CG rfl rfl ((Ih _ v D (hr.keep hE) (0) (by omega) xa ka hgxa).mono ?_));rintro e m ⟨rfl,h⟩;refine⟨_,rfl,?_⟩;have hE:=hE.trans h;refine gS (AaZ (vs:= [NI xa,NI ((0)+ka),NI 0]) rfl rfl (gS (AaZ (vs:= [NI xa,NI ((0)+ka),NI 0]) rfl rfl (gS (AaZ (vs:= [NI xa,NI ((0)+ka),NI 0]) rfl rfl (gS (XQ (a:=(0:Nat)) (b:=(0:Nat)) rfl rfl (AV _ _ _ _) (kF (by decide) (cF rfl (gS (XS CG rfl rfl ((Ih _ v D (hr.keep hE) ((0)+ka) (by omega) xb kb hgxb).mono ?_))))))))))));rintro e n ⟨rfl,i⟩;refine⟨_,rfl,?_⟩;have hE:=hE.trans i;refine gS (AaZ (vs:= [NI xb,NI (((0)+ka)+kb),NI 0]) rfl rfl (gS (AaZ (vs:= [NI xb,NI (((0)+ka)+kb),NI 0]) rfl rfl (gS (AaZ (vs:= [NI xb,NI (((0)+ka)+kb),NI 0]) rfl rfl (gS (XQ (a:=(0:Nat)) (b:=(0:Nat)) rfl rfl (AV _ _ _ _) (kF (by decide) (cF rfl (Wz (v:= .tuple #[NI xa,NI xb,NI (((0)+ka)+kb),NI 0]) (vs:= [NI xa,NI xb,NI (((0)+ka)+kb),NI 0]) rfl rfl ⟨rfl,rfl,rfl,rfl,trivial⟩ ?_))))))))));refine⟨?_,hE⟩;rw[DL,hgxa];simp only;rw[hgxb];rfl
theorem Tt(w:AbJ)(v:AbI)(D:Ah5)(hr:RB w v D)(h:DL D=none):
  Calls AbL 211 #[v] w fun e w' =>e = .returned (.tuple #[NI 0,NI 0,NI 0,NI 6])/\Ext w w' :=by
 have:=LN w v D hr;rw[h]at this;exact this
theorem RL(w:AbJ)(v:AbI)(D:Ah5)(hr:RB w v D)(a b n:Nat)(h:DL D=some (a,b,n)):
  Calls AbL 211 #[v] w fun e w' =>e = .returned (.tuple #[NI a,NI b,NI n,NI 0])/\Ext w w' :=by
 have:=LN w v D hr;rw[h]at this;exact this
theorem LO(w:AbJ)(vb v:AbI)(B D:Ah5)(hrb:RB w vb B)(hr:RB w v D)(i:Nat)(hi:i<=D.length)(hB:B.length<=1048576)(hD:D.length<=4611686018427387904):
  Calls AbL 212 #[vb,v,NI i] w fun e w' =>(match Ca B D i with | none=>e = .returned (.tuple #[.slice none 0 0,NI 0, .bool false]) | some (b,nx)=>∃v',e = .returned (.tuple #[v',NI nx, .bool true])/\RB w' v' b)/\Ext w w' :=by
 refine gG (args:= [vb,v,NI i]) Tryz.func212 rfl 70 rfl rfl ?_;have hE:=AaY w;rcases hgx:A3 0 (D.drop (i))with _ | ⟨x,k⟩
 ·refine gS (XS CG rfl rfl ((MN _ v D (hr.keep hE) (i) (by omega) hgx).mono ?_));rintro e y ⟨rfl,o⟩;refine⟨_,rfl,?_⟩;refine gS (AaZ (vs:= [NI 0,NI 0,NI 6]) rfl rfl (gS (AaZ (vs:= [NI 0,NI 0,NI 6]) rfl rfl (gS (AaZ (vs:= [NI 0,NI 0,NI 6]) rfl rfl (gS (XQ (a:=(6:Nat)) (b:=(0:Nat)) rfl rfl (AV _ _ _ _) (kT (by decide) (cT rfl (Jj rfl (vr (AbR none 0 0) rfl) (vr (NI 0) rfl) (vr (.bool (false)) rfl) ?_))))))))));rw[Ca,hgx];have hE:=hE.trans o;exact⟨rfl,hE⟩
 have hqx:=CM (a:=i) (by omega) hgx;refine gS (XS CG rfl rfl ((Ih _ v D (hr.keep hE) (i) (by omega) x k hgx).mono ?_));rintro e z ⟨rfl,g⟩;refine⟨_,rfl,?_⟩;refine gS (AaZ (vs:= [NI x,NI ((i)+k),NI 0]) rfl rfl (gS (AaZ (vs:= [NI x,NI ((i)+k),NI 0]) rfl rfl (gS (AaZ (vs:= [NI x,NI ((i)+k),NI 0]) rfl rfl (gS (XQ (a:=(0:Nat)) (b:=(0:Nat)) rfl rfl (AV _ _ _ _) (kF (by decide) (cF rfl (gS (XR (xv:=NI x) (yv:=NI 2) rfl rfl rfl (Lb _ _ _ (by omega) (by omega)) (gS (XR (xv:=NI x) (yv:=NI 2) rfl rfl rfl (FZ _ _ _ (by omega)) (gS (XQ (a:=((x)%(2):Nat)) (b:=(1:Nat)) rfl rfl (AI _ _ _ _) ?_)))))))))))))));refine cD rfl (fun hodd=> ?_) fun hodd=> ?_
 ·rcases hgp:A3 0 (D.drop (i+k))with _ | ⟨p,m⟩
  ·have hE:=hE.trans g;refine gS (XS CG rfl rfl ((MN _ v D (hr.keep hE) ((i)+k) (by omega) hgp).mono ?_));rintro e aa ⟨rfl,q⟩;refine⟨_,rfl,?_⟩;refine gS (AaZ (vs:= [NI 0,NI 0,NI 6]) rfl rfl (gS (AaZ (vs:= [NI 0,NI 0,NI 6]) rfl rfl (gS (AaZ (vs:= [NI 0,NI 0,NI 6]) rfl rfl (gS (XQ (a:=(6:Nat)) (b:=(0:Nat)) rfl rfl (AV _ _ _ _) (kT (by decide) (cT rfl (Jj rfl (vr (AbR none 0 0) rfl) (vr (NI 0) rfl) (vr (.bool (false)) rfl) ?_))))))))));rw[Ca,hgx];simp only;rw[if_pos hodd,hgp];have hE:=hE.trans q;refine⟨?_,hE⟩
   first | rfl | trivial
  have hqp:=CM (a:=i+k) (by omega) hgp;have hE:=hE.trans g;refine gS (XS CG rfl rfl ((Ih _ v D (hr.keep hE) ((i)+k) (by omega) p m hgp).mono ?_));rintro e ab ⟨rfl,j⟩;refine⟨_,rfl,?_⟩;refine gS (AaZ (vs:= [NI p,NI (((i)+k)+m),NI 0]) rfl rfl (gS (AaZ (vs:= [NI p,NI (((i)+k)+m),NI 0]) rfl rfl (gS (AaZ (vs:= [NI p,NI (((i)+k)+m),NI 0]) rfl rfl (gS (XQ (a:=(0:Nat)) (b:=(0:Nat)) rfl rfl (AV _ _ _ _) (kF (by decide) (cF rfl ?_)))))))));by_cases c:x/2<1
  ·refine gS (XQ (a:=((x)/(2):Nat)) (b:=(1:Nat)) rfl rfl (AK _ _ _ _) (kT (c) (gS (XY rfl rfl (gS (XY rfl rfl (cT rfl (Jj rfl (vr (AbR none 0 0) rfl) (vr (NI 0) rfl) (vr (.bool (false)) rfl) ?_))))))));rw[Ca,hgx];simp only;rw[if_pos hodd,hgp];simp only;rw[EX,if_pos (by omega)];have hE:=hE.trans j;refine⟨?_,hE⟩
   first | rfl | trivial
  by_cases f:B.length<p
  ·have hE:=hE.trans j;refine gS (XQ (a:=((x)/(2):Nat)) (b:=(1:Nat)) rfl rfl (AK _ _ _ _) (kF (c) (gS (XZ F7 (XV (hrb.keep hE) rfl) (gS (XQ (a:=(p:Nat)) (b:=(B.length:Nat)) rfl rfl (Bh _ _ _ _) (kT (f) (gS (X2 rfl rfl (gS (XY rfl rfl (cT rfl (Jj rfl (vr (AbR none 0 0) rfl) (vr (NI 0) rfl) (vr (.bool (false)) rfl) ?_)))))))))))));rw[Ca,hgx];simp only;rw[if_pos hodd,hgp];simp only;rw[EX,if_pos (by omega)];refine⟨?_,hE⟩
   first | rfl | trivial
  by_cases h:B.length-(p)<x/2
  ·have hE:=hE.trans j;refine gS (XQ (a:=((x)/(2):Nat)) (b:=(1:Nat)) rfl rfl (AK _ _ _ _) (kF (c) (gS (XZ F7 (XV (hrb.keep hE) rfl) (gS (XQ (a:=(p:Nat)) (b:=(B.length:Nat)) rfl rfl (Bh _ _ _ _) (kF (f) (gS (X2 rfl rfl (gS (XZ F7 (XV (hrb.keep hE) rfl) (gS (XR (xv:=NI B.length) (yv:=NI p) rfl rfl rfl (BB _ _ _ (by omega) (by omega)) (gS (XQ (a:=((x)/(2):Nat)) (b:=((B.length)-(p):Nat)) rfl rfl (Bh _ _ _ _) (kT (h) (gS (X2 rfl rfl (cT rfl (Jj rfl (vr (AbR none 0 0) rfl) (vr (NI 0) rfl) (vr (.bool (false)) rfl) ?_))))))))))))))))))));rw[Ca,hgx];simp only;rw[if_pos hodd,hgp];simp only;rw[EX,if_pos (by omega)];refine⟨?_,hE⟩
   first | rfl | trivial
  have hE:=hE.trans j;refine gS (XQ (a:=((x)/(2):Nat)) (b:=(1:Nat)) rfl rfl (AK _ _ _ _) (kF (c) (gS (XZ F7 (XV (hrb.keep hE) rfl) (gS (XQ (a:=(p:Nat)) (b:=(B.length:Nat)) rfl rfl (Bh _ _ _ _) (kF (f) (gS (X2 rfl rfl (gS (XZ F7 (XV (hrb.keep hE) rfl) (gS (XR (xv:=NI B.length) (yv:=NI p) rfl rfl rfl (BB _ _ _ (by omega) (by omega)) (gS (XQ (a:=((x)/(2):Nat)) (b:=((B.length)-(p):Nat)) rfl rfl (Bh _ _ _ _) (kF (h) (gS (X2 rfl rfl (cF rfl (gS (XR (xv:=NI x) (yv:=NI 2) rfl rfl rfl (FZ _ _ _ (by omega)) (gS (XQ (a:=((x)%(2):Nat)) (b:=(0:Nat)) rfl rfl (AI _ _ _ _) (kF (by omega) (cF rfl (gS (XR (xv:=NI p) (yv:=NI ((x)/(2))) rfl rfl rfl (Ah _ _ _ (by omega)) (gS (YO (xs:=B) (l:=p) (n:=(p)+((x)/(2))) F7 PO rfl (hrb.keep hE) rfl rfl (by omega) (by omega) fun r s ha44=>(Jj rfl (vr r rfl) (vr (NI (((i)+k)+m)) rfl) (vr (.bool (true)) rfl) ?_))))))))))))))))))))))))))))));rw[Ca,hgx];simp only;rw[if_pos hodd,hgp];simp only;rw[EX,if_neg (by omega)];refine⟨⟨_,rfl,?_⟩,hE⟩
  simpa only[AdT] using s
 by_cases c:x/2<1
 ·refine gS (XQ (a:=((x)/(2):Nat)) (b:=(1:Nat)) rfl rfl (AK _ _ _ _) (kT (c) (gS (XY rfl rfl (gS (XY rfl rfl (cT rfl (Jj rfl (vr (AbR none 0 0) rfl) (vr (NI 0) rfl) (vr (.bool (false)) rfl) ?_))))))));rw[Ca,hgx];simp only;rw[if_neg hodd];rw[EX,if_pos (by omega)];have hE:=hE.trans g;refine⟨?_,hE⟩
  first | rfl | trivial
 by_cases f:D.length<i+k
 ·have hE:=hE.trans g;refine gS (XQ (a:=((x)/(2):Nat)) (b:=(1:Nat)) rfl rfl (AK _ _ _ _) (kF (c) (gS (XZ F7 (XV (hr.keep hE) rfl) (gS (XQ (a:=((i)+k:Nat)) (b:=(D.length:Nat)) rfl rfl (Bh _ _ _ _) (kT (f) (gS (X2 rfl rfl (gS (XY rfl rfl (cT rfl (Jj rfl (vr (AbR none 0 0) rfl) (vr (NI 0) rfl) (vr (.bool (false)) rfl) ?_)))))))))))));rw[Ca,hgx];simp only;rw[if_neg hodd];rw[EX,if_pos (by omega)];refine⟨?_,hE⟩
  first | rfl | trivial
 by_cases h:D.length-(i+k)<x/2
 ·have hE:=hE.trans g;refine gS (XQ (a:=((x)/(2):Nat)) (b:=(1:Nat)) rfl rfl (AK _ _ _ _) (kF (c) (gS (XZ F7 (XV (hr.keep hE) rfl) (gS (XQ (a:=((i)+k:Nat)) (b:=(D.length:Nat)) rfl rfl (Bh _ _ _ _) (kF (f) (gS (X2 rfl rfl (gS (XZ F7 (XV (hr.keep hE) rfl) (gS (XR (xv:=NI D.length) (yv:=NI ((i)+k)) rfl rfl rfl (BB _ _ _ (by omega) (by omega)) (gS (XQ (a:=((x)/(2):Nat)) (b:=((D.length)-((i)+k):Nat)) rfl rfl (Bh _ _ _ _) (kT (h) (gS (X2 rfl rfl (cT rfl (Jj rfl (vr (AbR none 0 0) rfl) (vr (NI 0) rfl) (vr (.bool (false)) rfl) ?_))))))))))))))))))));rw[Ca,hgx];simp only;rw[if_neg hodd];rw[EX,if_pos (by omega)];refine⟨?_,hE⟩
  first | rfl | trivial
 have hE:=hE.trans g;refine gS (XQ (a:=((x)/(2):Nat)) (b:=(1:Nat)) rfl rfl (AK _ _ _ _) (kF (c) (gS (XZ F7 (XV (hr.keep hE) rfl) (gS (XQ (a:=((i)+k:Nat)) (b:=(D.length:Nat)) rfl rfl (Bh _ _ _ _) (kF (f) (gS (X2 rfl rfl (gS (XZ F7 (XV (hr.keep hE) rfl) (gS (XR (xv:=NI D.length) (yv:=NI ((i)+k)) rfl rfl rfl (BB _ _ _ (by omega) (by omega)) (gS (XQ (a:=((x)/(2):Nat)) (b:=((D.length)-((i)+k):Nat)) rfl rfl (Bh _ _ _ _) (kF (h) (gS (X2 rfl rfl (cF rfl (gS (XR (xv:=NI x) (yv:=NI 2) rfl rfl rfl (FZ _ _ _ (by omega)) (gS (XQ (a:=((x)%(2):Nat)) (b:=(0:Nat)) rfl rfl (AI _ _ _ _) (kT (by omega) (cT rfl (gS (XR (xv:=NI ((i)+k)) (yv:=NI ((x)/(2))) rfl rfl rfl (Ah _ _ _ (by omega)) (gS (XR (xv:=NI ((i)+k)) (yv:=NI ((x)/(2))) rfl rfl rfl (Ah _ _ _ (by omega)) (gS (YO (xs:=D) (l:=(i)+k) (n:=((i)+k)+((x)/(2))) F7 PO rfl (hr.keep hE) rfl rfl (by omega) (by omega) fun t u ha61=>(Jj rfl (vr t rfl) (vr (NI (((i)+k)+((x)/(2)))) rfl) (vr (.bool (true)) rfl) ?_))))))))))))))))))))))))))))))));rw[Ca,hgx];simp only;rw[if_neg hodd];rw[EX,if_neg (by omega)];refine⟨⟨_,rfl,?_⟩,hE⟩
 simpa only[AdT] using u
theorem Jm:Plain AbL 211:=fun _ _=>by kernel_rfl
theorem Jn:Plain AbL 212:=fun _ _=>by kernel_rfl
theorem Tu(w:AbJ)(vb v:AbI)(B D:Ah5)(hrb:RB w vb B)(hr:RB w v D)(i:Nat)(hi:i<=D.length)(hB:B.length<=1048576)(hD:D.length<=4611686018427387904)(h:Ca B D i=none):
  Calls AbL 212 #[vb,v,NI i] w fun e w' =>e = .returned (.tuple #[.slice none 0 0,NI 0, .bool false])/\Ext w w' :=by
 have:=LO w vb v B D hrb hr i hi hB hD;rw[h]at this;exact this
theorem RM(w:AbJ)(vb v:AbI)(B D:Ah5)(hrb:RB w vb B)(hr:RB w v D)(i:Nat)(hi:i<=D.length)(hB:B.length<=1048576)(hD:D.length<=4611686018427387904)(b:Ah5)(nx:Nat)(h:Ca B D i=some (b,nx)):
  Calls AbL 212 #[vb,v,NI i] w fun e w' =>∃v',e = .returned (.tuple #[v',NI nx, .bool true])/\RB w' v' b/\Ext w w' :=by
 have:=LO w vb v B D hrb hr i hi hB hD;rw[h]at this;exact this.mono fun e w' ⟨⟨v',h1,h2⟩,h3⟩=>⟨v',h1,h2,h3⟩
theorem RN(w:AbJ)(vb v:AbI)(B D:Ah5)(hrb:RB w vb B)(hr:RB w v D)(hB:B.length<=1048576)(hD:D.length<=4611686018427387904):
  Calls AbL 173 #[vb,v] w fun e w' =>∃v',e = .returned (.tuple #[v',NI (A7 B D).2])/\RB w' v' (A7 B D).1/\Ext w w' /\∀k,AbS v' =some k->w.heap.size<=k/\k<w'.heap.size:=by
 refine gG (args:= [vb,v]) Tryz.func173 rfl 65 rfl rfl ?_;have hE:=AaY w;rcases hsz:DL D with _ | ⟨sa,sb,sn⟩
 ·refine gS (XX Jm rfl ((Tt _ v D (hr.keep hE) hsz).mono ?_));rintro e w4 ⟨rfl,aa⟩;refine⟨_,rfl,?_⟩;refine gS (AaZ (vs:= [NI 0,NI 0,NI 0,NI 6]) rfl rfl (gS (AaZ (vs:= [NI 0,NI 0,NI 0,NI 6]) rfl rfl (gS (AaZ (vs:= [NI 0,NI 0,NI 0,NI 6]) rfl rfl (gS (AaZ (vs:= [NI 0,NI 0,NI 0,NI 6]) rfl rfl (gS (XQ (a:=(6:Nat)) (b:=(0:Nat)) rfl rfl (AV _ _ _ _) (kT (by decide) (cT rfl (BA rfl (vr (AbR none 0 0) rfl) (vr (NI 6) rfl) ?_))))))))))));have hP:A7 B D=([],6):=by rw[A7,hsz]
  rw[hP];have hE:=hE.trans aa;exact⟨_,rfl,Abi _,hE,(fun k hk=>by cases hk)⟩
 have hsb:=Nj hsz;refine gS (XX Jm rfl ((RL _ v D (hr.keep hE) sa sb sn hsz).mono ?_));rintro e ab ⟨rfl,x⟩;refine⟨_,rfl,?_⟩;refine gS (AaZ (vs:= [NI sa,NI sb,NI sn,NI 0]) rfl rfl (gS (AaZ (vs:= [NI sa,NI sb,NI sn,NI 0]) rfl rfl (gS (AaZ (vs:= [NI sa,NI sb,NI sn,NI 0]) rfl rfl (gS (AaZ (vs:= [NI sa,NI sb,NI sn,NI 0]) rfl rfl (gS (XQ (a:=(0:Nat)) (b:=(0:Nat)) rfl rfl (AV _ _ _ _) (kF (by decide) (cF rfl (gS (XQ (a:=(sb:Nat)) (b:=(262144:Nat)) rfl rfl (Bh _ _ _ _) ?_)))))))))))));refine cD rfl (fun c=> ?_) fun c=> ?_
 ·refine BA rfl (vr (AbR none 0 0) rfl) (vr (NI 2) rfl) ?_;have hP:A7 B D=([],2):=by rw[A7,hsz];simp only;rw[if_pos c]
  rw[hP];have hE:=hE.trans x;exact⟨_,rfl,Abi _,hE,(fun k hk=>by cases hk)⟩
 have hE:=hE.trans x;refine gS (XZ F7 (XV (hrb.keep hE) rfl) (gS (XQ (a:=(sa:Nat)) (b:=(B.length:Nat)) rfl rfl (AV _ _ _ _) ?_)));refine cD rfl (fun g=> ?_) fun g=> ?_
 ·refine BA rfl (vr (AbR none 0 0) rfl) (vr (NI 6) rfl) ?_;have hP:A7 B D=([],6):=by rw[A7,hsz];simp only;rw[if_neg c,if_pos g]
  rw[hP];exact⟨_,rfl,Abi _,hE,(fun k hk=>by cases hk)⟩
 have hoN:w.ownsRow w.heap.size 5 1 (AbR none 0 0) ([]:Ah5).length (AbK ([]:Ah5)):=AcH _ _ _ 1;have hoN:ab.ownsRow w.heap.size 5 1 (AbR none 0 0) ([]:Ah5).length (AbK ([]:Ah5)):=AcH _ _ _ 1;refine gL (fun(ρ:Ac) (wz:AbJ)=>∃i:Nat,∃f:Nat,∃o:Ah5,∃vo:AbI,ρ 0=(vb:AbI)/\ρ 1=(v:AbI)/\ρ 6=(NI sa:AbI)/\ρ 7=(NI sb:AbI)/\ρ 9=(NI 0:AbI)/\ρ 21=(.bool (false):AbI)/\ρ 8=(NI i:AbI)/\ρ 10=(vo:AbI)/\Ext w wz/\wz.ownsRow w.heap.size 5 1 vo o.length (AbK (o))/\(Ck B D sb f i o=Ck B D sb (D.length+1) sn [])/\(D.length<i+f)/\(i<=D.length)/\(o.length<=sb)/\True) (fun ρ _=>D.length-(intOf (ρ 8)).toNat) ⟨sn,D.length+1,[],(AbR none 0 0),rfl,rfl,rfl,rfl,rfl,rfl,rfl,rfl,hE,Dj hoN (rfl),rfl,by omega,by omega,by simp,trivial⟩ ?_;clear hoN;clear hE;rintro ac al ⟨i,f,o,vo,p,l,T6,q,T9,af,m,j,hE,ho_vo,hgo,hf,hi,hos,-⟩;have q8:=m;have ql10:=ES ho_vo;obtain⟨f',rfl⟩:∃f',f=f' +1:=⟨f-1,by omega⟩;refine gS (XZ F7 (XV (hr.keep hE) l) (gS (XQ (a:=(i:Nat)) (b:=(D.length:Nat)) m rfl (AK _ _ _ _) ?_)));refine cD rfl (fun h=> ?_) fun h=> ?_
 ·rcases hpc:Ca B D i with _ | ⟨pb,nx⟩
  ·refine gS (Yf Jn p l m ((Tu _ vb v B D (hrb.keep hE) (hr.keep hE) i (by omega) hB hD hpc).mono ?_));rintro e am ⟨rfl,ag⟩;refine⟨_,rfl,?_⟩;refine gS (AaZ (vs:= [(AbR none 0 0),NI 0, .bool (false)]) rfl rfl (gS (AaZ (vs:= [(AbR none 0 0),NI 0, .bool (false)]) rfl rfl (gS (AaZ (vs:= [(AbR none 0 0),NI 0, .bool (false)]) rfl rfl (gS (Yz rfl (gS (XY rfl rfl (cT rfl (BA rfl (vr (AbR none 0 0) rfl) (vr (NI 6) rfl) ?_)))))))))));rw[Ck,if_pos h,hpc]at hgo;have hP:A7 B D=([],6):=by rw[A7,hsz];simp only;rw[if_neg c,if_neg g,<-hgo]
   rw[hP];have hE:=hE.trans ag;exact⟨_,rfl,Abi _,hE,(fun k hk=>by cases hk)⟩
  have hpb:=Nk (by omega) hpc;refine gS (Yf Jn p l m ((RM _ vb v B D (hrb.keep hE) (hr.keep hE) i (by omega) hB hD pb nx hpc).mono ?_));rintro e ah ⟨n,rfl,r,s⟩;refine⟨_,rfl,?_⟩;have ho_vo:=Aa5 _ _ _ _ _ _ _ _ ho_vo s;refine gS (AaZ (vs:= [n,NI nx, .bool (true)]) rfl rfl (gS (AaZ (vs:= [n,NI nx, .bool (true)]) rfl rfl (gS (AaZ (vs:= [n,NI nx, .bool (true)]) rfl rfl (gS (Yz rfl (gS (XZ F7 (XV r rfl) (gS (XZ F7 (XV (Ya ho_vo) j) (gS (XR (xv:=NI sb) (yv:=NI o.length) q rfl rfl (BB _ _ _ (by omega) (by omega)) (gS (XQ (a:=(pb.length:Nat)) (b:=((sb)-(o.length):Nat)) rfl rfl (Bh _ _ _ _) (gS (X2 rfl rfl ?_)))))))))))))))));refine cD rfl (fun t=> ?_) fun t=> ?_
  ·refine BA rfl (vr (AbR none 0 0) rfl) (vr (NI 6) rfl) ?_;rw[Ck,if_pos h,hpc]at hgo;simp only at hgo;rw[if_pos t]at hgo;have hP:A7 B D=([],6):=by rw[A7,hsz];simp only;rw[if_neg c,if_neg g,<-hgo]
   rw[hP];have hE:=hE.trans s;exact⟨_,rfl,Abi _,hE,(fun k hk=>by cases hk)⟩
  have hE:=hE.trans s;refine gS (Yh _ _ w.heap.size (.int .u8 0) F7 MM rfl F7 (o) (pb) (CV ho_vo j) (XV r (vr n rfl)) (by omega) hE.size fun y ai aj u=> ?_);have u:Grew ah ai vo y:= .eqv j u;have hE:=Ao hE u ho_vo (AbO _);clear r;clear ho_vo;refine gK (Acr ⟨nx,f',o++pb,y,p,l,T6,q,T9,af,rfl,rfl,hE,Dj aj (rfl),by rw[Ck,if_pos h,hpc]at hgo;simp only at hgo;rw[if_neg t]at hgo;exact hgo,by omega,by omega,by rw[AbP];omega,trivial⟩ ?_);show D.length-(intOf (NI nx)).toNat<D.length-(intOf (ac 8)).toNat;rw[q8];simp only[intOf,Ab0];omega
 refine gS (XZ F7 (XV (Ya ho_vo) j) (gS (XQ (a:=(o.length:Nat)) (b:=(sb:Nat)) rfl q (AV _ _ _ _) ?_)));refine cD rfl (fun z=> ?_) fun z=> ?_
 ·refine BA rfl (vr (AbR none 0 0) rfl) (vr (NI 6) rfl) ?_;rw[Ck,if_neg h,if_neg z]at hgo;have hP:A7 B D=([],6):=by rw[A7,hsz];simp only;rw[if_neg c,if_neg g,<-hgo]
  rw[hP];exact⟨_,rfl,Abi _,hE,(fun k hk=>by cases hk)⟩
 refine BA rfl j (vr (NI 0) rfl) ?_;rw[Ck,if_neg h,if_pos (by omega)]at hgo;have hP:A7 B D=(o,0):=by rw[A7,hsz];simp only;rw[if_neg c,if_neg g,<-hgo]
 rw[hP];exact⟨_,rfl,Ya ho_vo,hE,(ho_vo).lt⟩
theorem Il(T:Ah5)(fr to:Nat)(o:Ah5):∃r,Cj T fr to o=o++r:=by
 unfold Cj;split
 ·exact⟨Ab3 (2*(to-fr))++(T.drop fr).take (to-fr),by rw[Acj]⟩
 ·exact⟨[],by simp⟩
theorem Im(B T:Ah5):∀(f i fr:Nat) (o:Ah5),∃r,C6 B T f i fr o=o++r
 | 0,_,fr,o=>Il T fr T.length o
 | f+1,i,fr,o=>by
  unfold C6;split
  ·split
   ·exact Im B T f _ _ _
   ·obtain⟨r,hr⟩:=Im B T f (i+(BT B T i).2) (i+(BT B T i).2) (Cj T fr i o++Ab3 (2*(BT B T i).2+1)++Ab3 (BT B T i).1);obtain⟨q,hq⟩:=Il T fr i o;exact⟨q++Ab3 (2*(BT B T i).2+1)++Ab3 (BT B T i).1++r,by rw[hr,hq];simp only[Acj]⟩
  ·exact Il T fr T.length o
theorem D7(n:Nat)(h:n<9223372036854775808)(r:Ah5):A3 0 (Ab3 n++r)=some (n,(Ab3 n).length):=GZ r 8 n 0 (AcE h (by decide)) (by omega) (by omega)
theorem OD(B T:Ah5)(hB:B.length<=1048576)(hT:T.length<=1048576):DL (BV B T)=some (B.length,T.length,0+(Ab3 B.length).length+(Ab3 T.length).length):=by
 obtain⟨r,hr⟩:=Im B T T.length 0 0 (Ab3 B.length++Ab3 T.length);have h1:BV B T=Ab3 B.length++(Ab3 T.length++r):=by rw[BV,hr,Acj]
 unfold DL;rw[h1,List.drop_zero,D7 _ (by omega)];simp only;rw[Ac2,AdI,D7 _ (by omega)]
theorem Pc(B T:Ah5)(i:Nat)(hi:i<=T.length):∀(zs:List Nat) (pn:Nat × Nat),(∀z∈zs,z<=B.length)->pn.1<=B.length->pn.2<=T.length-i->(zs.foldl (En B T i) pn).1<=B.length/\(zs.foldl (En B T i) pn).2<=T.length-i
 | [],_,_,h1,h2=>⟨h1,h2⟩
 | z :: zs,pn,hz,h1,h2=>by
  rw[AeK];refine Pc B T i hi zs _ (fun x hx=>hz x (by simp[hx])) ?_ ?_
  ·unfold En;split
   ·exact hz z (by simp)
   ·exact h1
  ·unfold En;split
   ·have:=(Kj (B.drop z) (T.drop i)).2;rw[Ab6]at this;exact this
   ·exact h2
theorem Pd(B T:Ah5)(i:Nat)(hi:i<=T.length):(BT B T i).1<=B.length/\(BT B T i).2<=T.length-i:=by
 unfold BT;split
 ·refine Pc B T i hi _ _ (fun z hz=> ?_) (Ack _) (Ack _);unfold posOf at hz;rw[Adr,Afz]at hz;omega
 ·exact⟨Ack _,Ack _⟩
theorem Nl:∀(a b:Ah5) (n:Nat),n<=CL a b->a.take n=b.take n
 | _,_,0,_=>by simp
 | [],b,n+1,h=>by simp[CL]at h
 | a :: u,[],n+1,h=>by simp[CL]at h
 | a :: u,b :: z,n+1,h=>by
  unfold CL at h;split at h
  ·rename_i e
   rw[AeF,AeF,e,Nl u z n (by omega)]
  ·omega
theorem RO:∀(n:Nat) (a b:Ah5),n<=a.length->n<=b.length->a.take n=b.take n->n<=CL a b
 | 0,_,_,_,_,_=>Ack _
 | n+1,[],_,h,_,_=>by simp at h
 | n+1,_ :: _,[],_,h,_=>by simp at h
 | n+1,a :: u,b :: z,h1,h2,h=>by
  rw[AeF,AeF]at h;injection h with c e
  unfold CL;rw[if_pos c];have:=RO n u z (by simpa using h1) (by simpa using h2) e;omega
theorem Pe(B T:Ah5)(i:Nat):∀(zs:List Nat) (pn:Nat × Nat),(pn.2=0\/pn.2=CL (B.drop pn.1) (T.drop i)/\8<=pn.2)->(∀z∈zs,8<=CL (B.drop z) (T.drop i))->(zs.foldl (En B T i) pn).2=0\/(zs.foldl (En B T i) pn).2=CL (B.drop (zs.foldl (En B T i) pn).1) (T.drop i)/\8<=(zs.foldl (En B T i) pn).2
 | [],_,h,_=>h
 | z :: zs,pn,h,hz=>by
  rw[AeK];refine Pe B T i zs _ ?_ (fun x hx=>hz x (by simp[hx]));unfold En;split
  ·exact .inr ⟨rfl,hz z (by simp)⟩
  ·exact h
theorem Pf(B T:Ah5)(i:Nat)(h:(BT B T i).2≠0):(BT B T i).2=CL (B.drop (BT B T i).1) (T.drop i)/\8<=(BT B T i).2:=by
 have key:(BT B T i).2=0\/(BT B T i).2=CL (B.drop (BT B T i).1) (T.drop i)/\8<=(BT B T i).2:=by
  unfold BT;split
  ·rename_i h8
   refine Pe B T i _ _ (.inl rfl) (fun z hz=> ?_);unfold posOf at hz;rw[Adr,Afz]at hz;have he:=eq_of_beq hz.2;exact RO 8 _ _ (by rw[Ab6];omega) (by rw[Ab6];omega) he
  ·exact .inl rfl
 exact key.resolve_left h
def Cb(T:Ah5)(fr to:Nat):Ah5:=if fr<to then Ab3 (2*(to-fr))++(T.drop fr).take (to-fr)else []
def EE(B T:Ah5):Nat->Nat->Nat->Ah5
 | 0,_,fr=>Cb T fr T.length
 | f+1,i,fr=>if i<T.length then(if(BT B T i).2=0 then EE B T f (i+1) fr
  else Cb T fr i++(Ab3 (2*(BT B T i).2+1)++(Ab3 (BT B T i).1++EE B T f (i+(BT B T i).2) (i+(BT B T i).2))))else Cb T fr T.length
theorem JJ(T:Ah5)(fr to:Nat)(o:Ah5):Cj T fr to o=o++Cb T fr to:=by
 unfold Cj Cb;split
 ·rw[Acj]
 ·simp
theorem JL(B T:Ah5):∀(f i fr:Nat) (o:Ah5),C6 B T f i fr o=o++EE B T f i fr
 | 0,_,fr,o=>JJ T fr T.length o
 | f+1,i,fr,o=>by
  unfold C6 EE;split
  ·split
   ·exact JL B T f _ _ _
   ·rw[JL B T f,JJ];simp only[Acj]
  ·exact JJ T fr T.length o
theorem RP(n:Nat)(h:n<16384):(Ab3 n).length<=2:=Lib.uvarint_length 1 n (by omega)
theorem Ht(T:Ah5)(fr to:Nat)(ht:to<=T.length)(hT:T.length<=5000):(Cb T fr to).length<=2*(to-fr):=by
 unfold Cb;split
 ·have h2:=RP (2*(to-fr)) (by omega);rw[AbP,Ab5,Ab6];by_cases h1:to-fr=1
  ·rw[h1,AeX (by omega)];simp;omega
  ·omega
 ·simp
theorem In(B T:Ah5)(hB:B.length<=5000)(hT:T.length<=5000):∀(f i fr:Nat),fr<=i->i<=T.length->(EE B T f i fr).length<=2*(T.length-fr)
 | 0,i,fr,_,_=>Ht T fr T.length (AbO _) hT
 | f+1,i,fr,h,hi=>by
  unfold EE;split
  ·split
   ·exact In B T hB hT f (i+1) fr (by omega) (by omega)
   ·rename_i h1 hn
    have hb:=Pd B T i hi;have h8:=(Pf B T i hn).2;have ih:=In B T hB hT f (i+(BT B T i).2) (i+(BT B T i).2) (AbO _) (by omega);have hf:=Ht T fr i hi hT;have a:=RP (2*(BT B T i).2+1) (by omega);have b:=RP (BT B T i).1 (by omega);simp only[AbP];omega
  ·exact Ht T fr T.length (AbO _) hT
theorem Pg(B T:Ah5):BV B T=Ab3 B.length++Ab3 T.length++EE B T T.length 0 0:=JL B T _ _ _ _
theorem Io(B T:Ah5)(hB:B.length<=5000)(hT:T.length<=5000):(BV B T).length<=2*T.length+18:=by
 have:=In B T hB hT T.length 0 0 (AbO _) (Ack _);have a:=RP B.length (by omega);have b:=RP T.length (by omega);rw[Pg,AbP,AbP];omega
theorem RQ(B pre bs rest:Ah5)(h1:1<=bs.length)(h2:bs.length<=1048576):Ca B (pre++(Ab3 (2*bs.length)++(bs++rest))) pre.length=some (bs,pre.length+(Ab3 (2*bs.length)).length+bs.length):=by
 unfold Ca;rw[AdI,D7 _ (by omega)];simp only;rw[if_neg (by omega),EX,if_neg (by simp only[AbP];omega),Nat.mul_div_cancel_left _ (by decide)];rw[show pre++(Ab3 (2*bs.length)++(bs++rest))=(pre++Ab3 (2*bs.length))++(bs++rest) by rw[Acj],<-AbP,AdI,List.take_left]
theorem P9(B pre rest:Ah5)(p n:Nat)(hn:1<=n)(hp:p<=B.length)(hpn:n<=B.length-p)(hB:B.length<=1048576):Ca B (pre++(Ab3 (2*n+1)++(Ab3 p++rest))) pre.length=some ((B.drop p).take n,pre.length+(Ab3 (2*n+1)).length+(Ab3 p).length):=by
 unfold Ca;rw[AdI,D7 _ (by omega)];simp only;rw[if_pos (by omega),show pre++(Ab3 (2*n+1)++(Ab3 p++rest))=(pre++Ab3 (2*n+1))++(Ab3 p++rest) by rw[Acj],<-AbP,AdI,D7 _ (by omega)];simp only;rw[show(2*n+1)/2=n by omega,EX,if_neg (by omega)]
theorem LP(T:Ah5)(fr to:Nat)(h:fr<=to):T.take fr++(T.drop fr).take (to-fr)=T.take to:=by
 rw[<-List.take_add]
 congr 1
 omega
theorem Ko(B T pre rest:Ah5)(fr to:Nat)(h:fr<=to)(ht:to<=T.length)(hT:T.length<=1048576)(g:Nat)(hg:(Cb T fr to++rest).length<g):∃g',rest.length<g' /\Ck B (pre++(Cb T fr to++rest)) T.length g pre.length (T.take fr)=Ck B (pre++(Cb T fr to++rest)) T.length g' (pre++Cb T fr to).length (T.take to):=by
 by_cases hlt:fr<to
 ·have hl:((T.drop fr).take (to-fr)).length=to-fr:=by rw[Ab5,Ab6];omega
  have hf:Cb T fr to=Ab3 (2*((T.drop fr).take (to-fr)).length)++(T.drop fr).take (to-fr):=by rw[Cb,if_pos hlt,hl]
  have hfl:1<=(Cb T fr to).length:=by rw[hf,AbP,hl];omega
  cases g with
  | zero=>omega
  | succ g=>
   refine⟨g,by rw[AbP]at hg;omega,?_⟩;rw[Ck,if_pos (by simp only[AbP];omega)];have hp:=RQ B pre ((T.drop fr).take (to-fr)) rest (by omega) (by omega);rw[show pre++(Cb T fr to++rest)=pre++(Ab3 (2*((T.drop fr).take (to-fr)).length)++((T.drop fr).take (to-fr)++rest)) by rw[hf,Acj],hp];simp only;rw[if_neg (by rw[hl,Ab5];omega),LP T fr to h]
   congr 1
   rw[hf];simp only[AbP];omega
 ·have he:fr=to:=by omega
  subst he;have hf:Cb T fr fr= []:=by rw[Cb,if_neg (by omega)]
  rw[hf]at hg ⊢;exact⟨g,by simpa using hg,by simp⟩
theorem OE(B D T:Ah5)(g:Nat)(hg:0<g):Ck B D T.length g D.length (T.take T.length)=some T:=by
 cases g with
 | zero=>omega
 | succ g=>rw[Ck,if_neg (by omega),List.take_length,if_pos rfl]
theorem LQ(B T pre:Ah5)(fr:Nat)(h:fr<=T.length)(hT:T.length<=1048576)(g:Nat)(hg:(Cb T fr T.length).length<g):Ck B (pre++Cb T fr T.length) T.length g pre.length (T.take fr)=some T:=by
 obtain⟨g',h1,h2⟩:=Ko B T pre [] fr T.length h (AbO _) hT g (by simpa using hg);rw[AdG]at h2;rw[h2];exact OE B _ T g' (by omega)
theorem Ip(B T:Ah5)(hB:B.length<=1048576)(hT:T.length<=1048576):∀(f i fr:Nat) (pre:Ah5) (g:Nat),fr<=i->i<=T.length->(EE B T f i fr).length<g->Ck B (pre++EE B T f i fr) T.length g pre.length (T.take fr)=some T
 | 0,i,fr,pre,g,h1,h2,hg=>LQ B T pre fr (by omega) hT g hg
 | f+1,i,fr,pre,g,h1,h2,hg=>by
  unfold EE at hg ⊢;split
  ·rename_i hi
   rw[if_pos hi]at hg;split
   ·rename_i hn
    rw[if_pos hn]at hg;exact Ip B T hB hT f (i+1) fr pre g (by omega) (by omega) hg
   ·rename_i hn
    rw[if_neg hn]at hg;have hb:=Pd B T i h2;have hs:=Pf B T i hn
    generalize BT B T i=pn at *
    obtain⟨p,n⟩:=pn;simp only at hn hb hs hg ⊢;have hpn:=(Kj (B.drop p) (T.drop i)).1;rw[Ab6]at hpn;obtain⟨g',h3,h4⟩:=Ko B T pre (Ab3 (2*n+1)++(Ab3 p++EE B T f (i+n) (i+n))) fr i h1 h2 hT g hg;rw[h4];have hu:=Lib.uvarint_pos (2*n+1);cases g' with
    | zero=>omega
    | succ g' =>
     rw[<-Acj pre,Ck,if_pos (by simp only[AbP];omega),P9 B (pre++Cb T fr i) _ p n (by omega) hb.1 (by omega) hB];simp only;have hl:((B.drop p).take n).length=n:=by rw[Ab5,Ab6];omega
     rw[if_neg (by rw[hl,Ab5];omega),Nl (B.drop p) (T.drop i) n (by omega)];have ht:T.take i++(T.drop i).take n=T.take (i+n):=by
      have:=LP T i (i+n) (by omega)
      rwa [AdT]at this
     rw[ht];have ih:=Ip B T hB hT f (i+n) (i+n) (pre++Cb T fr i++Ab3 (2*n+1)++Ab3 p) g' (AbO _) (by omega) (by simp only[AbP]at h3;omega);rw[<-ih];simp only[Acj,AbP,Nat.add_assoc]
  ·rename_i hi
   rw[if_neg hi]at hg;exact LQ B T pre fr (by omega) hT g hg
theorem Qa(B T:Ah5)(hB:B.length<=5000)(hT:T.length<=5000):A7 B (BV B T)=(T,0):=by
 unfold A7;rw[OD B T (by omega) (by omega)];simp only;rw[if_neg (by omega),if_neg (by simp),Pg,Ac2,<-AbP];have:=Ip B T (by omega) (by omega) T.length 0 0 (Ab3 B.length++Ab3 T.length) ((Ab3 B.length++Ab3 T.length++EE B T T.length 0 0).length+1) (AbO _) (Ack _) (by simp only[AbP];omega);rw[List.take_zero]at this;rw[this]
theorem ZA(n i:Nat)(h:i<8):(Sha.be64 n).take (i+1)=(Sha.be64 n).take i++ [UInt8.ofNat (n/2^(56-8*i))]:=by
 unfold Sha.be64;rw[Acn (by simp;omega)];simp
def HashAt(w:AbJ)(g:Nat)(p:Ah5):Prop:=∃s r,Sha.At p s r/\w.heap[g]? =some (.cells (hashL s r (p.length%64) p.length).toArray 226 (0,0))
theorem HashAt.keep{w w' :AbJ}{g:Nat}{p:Ah5}(h:HashAt w g p)(k:Ext w w'):HashAt w' g p:=by
 obtain⟨s,r,h1,h2⟩:=h;exact⟨s,r,h1,eb k h2⟩
theorem sha6_ty147:Tryz.prog.underlying 147=some (.pointer 226):=by kernel_rfl
theorem sha6_fo226_3:A4 AbL 226 3 73:=fun b o w=>by simp[go_sem]
theorem Iq:A4 AbL 226 1 8:=fun b o w=>by simp[go_sem]
theorem D8:A4 AbL 226 2 72:=fun b o w=>by simp[go_sem]
theorem Kp:Tryz.prog.underlying 224=some (.array 64 5):=by kernel_rfl
theorem Ir:A4 AbL 226 0 0:=fun b o w=>by simp[go_sem]
theorem Qb:Plain AbL 137:=fun _ _=>by kernel_rfl
theorem Vt(w:AbJ)(hG:Laid w):
  Calls AbL 81 #[] w fun e w' =>∃g,e = .returned (PQ g 0)/\w.heap.size<=g/\HashAt w' g []/\Ext w w' :=by
 obtain⟨tF,fF,hF0⟩:=hG.first;refine gG (args:= []) Tryz.func81 rfl 4 rfl rfl ?_;have hE:=AaY w;refine gS (XU rfl (eb hE hF0) AQ rfl DO (gS (Abo (v:= .agg (hashL Sha.first (AbX 64 0) 0 0).toArray) (by kernel_rfl) (gS (Abh (vr (.agg (hashL Sha.first (AbX 64 0) 0 0).toArray) rfl) fun a c i b f j=> ?_)))));have h:=b;clear b;have k:a<c.heap.size:=by omega
 refine Bp rfl (vr (PQ a 0) rfl) ?_;have hE:=hE.trans f;exact⟨_,rfl,by omega,⟨_,_,Sha.at_nil,h⟩,hE⟩
theorem LR(w:AbJ)(hG:Laid w)(g:Nat)(hh:1<g)(p:Ah5)(hH:HashAt w g p)(v:AbI)(c:Ah5)(hc:RB w v c)(hv:v.ownBlock≠some g)(hb:p.length+c.length<4611686018427387904):
  Calls AbL 82 #[PQ g 0,v] w fun e w' =>e = .returned (.tuple #[])/\HashAt w' g (p++c)/\w.grownBy w' (some g):=by
 obtain⟨s,r,hat,u⟩:=hH;have hs:=hat.slen;have hr:=hat.len;obtain⟨f,hf⟩:∃f,f=p.length%64:=⟨_,rfl⟩;rw[<-hf]at u;obtain⟨N,hN⟩:∃N,p.length+c.length=N:=⟨_,rfl⟩;have hgr:w.grownBy w (some g):=World.grownBy.refl _ _;refine gG (args:= [PQ g 0,v]) Tryz.func82 rfl 60 rfl rfl (gS (Ye sha6_ty147 rfl (cF rfl (gS (Aa1 rfl (gS (Aa0 sha6_fo226_3 rfl (gS (XP Tk rfl rfl (cellAt u (hashL_size hs hr)) (gS (XZ F7 (XV hc rfl) (gS (XR (xv:=NI p.length) (yv:=NI c.length) rfl rfl rfl (Ah _ _ _ (by omega)) (gS (Aa1 rfl (gS (Aa0 sha6_fo226_3 rfl (gS (X5 (i:=73) (v:=NI ((p.length)+(c.length))) rfl rfl u (by rw[Cr hs hr];omega) Nf rfl rfl fun w4 ay al b2=> ?_)))))))))))))))))));have hG:Laid w4:=AbC hG al hh;have hgr:w.grownBy w4 (some g):=Ak hgr al (fun _ e=> .inl e);clear u;have u:=ay;clear ay;have b3:=bl u;have u:w4.heap[g]? =some (.cells (hashL s r f N).toArray 226 (0,0)):=AW u (by rw[HW hs hr,hN]);have hc:=Abp hc al (.inr hv);refine gL (fun(ρ:Ac) (wz:AbJ)=>∃m:Nat,∃s1:List UInt32,∃r1:Ah5,∃f1:Nat,∃v1:AbI,ρ 0=(PQ g 0:AbI)/\ρ 6=(.bool (false):AbI)/\ρ 1=(v1:AbI)/\Laid wz/\w.grownBy wz (some g)/\RB wz v1 (c.drop m)/\wz.heap[g]? =some (.cells (hashL s1 r1 f1 N).toArray 226 (0,0))/\(m<=c.length)/\(Sha.At (p++c.take m) s1 r1)/\(f1=(p++c.take m).length%64)/\(OB v1 g)/\True) (fun ρ _=>BF (ρ 1)) ⟨0,s,r,f,v,rfl,rfl,rfl,hG,hgr,hc,AW u (rfl),by omega,by simpa using hat,by simpa using hf,hv,trivial⟩ ?_;clear hc;clear u;clear hG hgr;rintro az ag ⟨m,s1,r1,f1,v1,q,T6,z,hG,hgr,ab,hb0l,hm,hat1,hf1,hv1,-⟩;have q1:=z;have ql1:=ab.sliceLen;have t:=hat1.slen;have am:=hat1.len;have hf64:f1<64:=by omega
 refine gS (XZ F7 (XV ab z) (gS (XQ (a:=((c.drop m:Ah5).length:Nat)) (b:=(0:Nat)) rfl rfl (Bh _ _ _ _) ?_)));refine cD rfl (fun hc1' => ?_) fun hc1' => ?_
 ·obtain⟨X,hX⟩:∃X,X=(c.drop m).take (64-f1):=⟨_,rfl⟩;obtain⟨n,hn⟩:∃n,n=X.length:=⟨_,rfl⟩;have hxl:X.length=n:=hn.symm;have hcl:(c.drop m).length=c.length-m:=Ab6;have hnm:Nat.min (c.drop m).length (64-f1)=n:=by rw[hn,hX,Ab5];exact AhM _ _
  have b4:0<n:=by rw[<-hnm];exact Nat.lt_min.2 ⟨hc1',by omega⟩
  have b5:f1+n<=64:=by(have:n<=64-f1:=by rw[<-hnm];exact Nat.min_le_right _ _);omega
  have a6:n<=(c.drop m).length:=by rw[<-hnm];exact Nat.min_le_left _ _
  have hXn:X=(c.drop m).take n:=by rw[hX,<-hnm];simp[List.take_eq_take_iff];exact AhM _ _
  have htk:(p++c.take m)++X=p++c.take (m+n):=by rw[Acj,hXn,List.take_add]
  refine gR ?_;refine MV 9 [Is (PQ g 0),Is (PQ g 0),Is (PQ g 8),Is (PQ g 0),Is (PQ g 0),Is (PQ g 72),Is (NI f1),Is (.slice (some ⟨g,8+f1,none⟩) (64-f1) (64-f1)),Is (v1),fun x w' =>x=NI n/\w'.heap[g]? =some (.cells (hashL s1 (r1.take f1++X++r1.drop (f1+n)) f1 N).toArray 226 (0,0))/\ag.grownBy w' (some g),fun x w' =>x=NI n/\w'.heap[g]? =some (.cells (hashL s1 (r1.take f1++X++r1.drop (f1+n)) f1 N).toArray 226 (0,0))/\ag.grownBy w' (some g)] (by kernel_rfl) [19,20,21,22,23,24,25,26,27,28,4] (by kernel_rfl) (by kernel_rfl) (by kernel_rfl) rfl (Xx ⟨(fun _ _ _ hp he=>⟨hp.1,eb he hp.2.1,Ak hp.2.2 he.grown (fun _ e=>by cases e)⟩),(fun _ _ _ hp he=>⟨hp.1,eb he hp.2.1,Ak hp.2.2 he.grown (fun _ e=>by cases e)⟩),trivial⟩) (Xx trivial) ?a7 ?hQ1003
  case a7=>
   refine⟨?_,?_,?_,?_,?_,?_,?_,?_,?_,?_,?_,trivial⟩
   ·refine Aj rfl fun σ w1 hC h=> ?_;have e0:=(AH (h 0 (by decide))).trans q;have hC:Ext _ w1:=hC;exact Aa7 e0 ⟨AaY _,rfl⟩
   ·refine Aj rfl fun σ w1 hC h=> ?_;have a8:=AH (h 19 (by decide));have hC:Ext _ w1:=hC;exact Aa1 a8 ⟨AaY _,rfl⟩
   ·refine Aj rfl fun σ w1 hC h=> ?_;have a9:=AH (h 20 (by decide));have hC:Ext _ w1:=hC;exact Aa0 Iq a9 ⟨AaY _,rfl⟩
   ·refine Aj rfl fun σ w1 hC h=> ?_;have e0:=(AH (h 0 (by decide))).trans q;have hC:Ext _ w1:=hC;exact Aa7 e0 ⟨AaY _,rfl⟩
   ·refine Aj rfl fun σ w1 hC h=> ?_;have ba:=AH (h 22 (by decide));have hC:Ext _ w1:=hC;exact Aa1 ba ⟨AaY _,rfl⟩
   ·refine Aj rfl fun σ w1 hC h=> ?_;have bb:=AH (h 23 (by decide));have hC:Ext _ w1:=hC;exact Aa0 D8 bb ⟨AaY _,rfl⟩
   ·refine Aj rfl fun σ w1 hC h=> ?_;have bc:=AH (h 24 (by decide));have hC:Ext _ w1:=hC;exact XP Tk rfl bc (cellAt (eb hC hb0l) (Hm t am)) ⟨AaY _,rfl⟩
   ·refine Aj rfl fun σ w1 hC h=> ?_;have bd:=AH (h 21 (by decide));have be:=AH (h 25 (by decide));have hC:Ext _ w1:=hC;exact ZI Kp PO bd be (by omega) ⟨AaY _,rfl⟩
   ·refine Aj rfl fun σ w1 hC h=> ?_;have e1:=(AH (h 1 (by decide))).trans z;have hC:Ext _ w1:=hC;exact Aa7 e1 ⟨AaY _,rfl⟩
   ·refine Aj rfl fun σ w1 hC h=> ?_;have bf:=AH (h 26 (by decide));have bg:=AH (h 27 (by decide));have hC:Ext _ w1:=hC;refine ZC (.tmp 26) (.tmp 27) (o:=8+f1) F7 WC bf (l:=c.drop m) (by show RB w1 (σ 27) _;rw[bg];exact ab.keep hC) (eb hC hb0l) (by rw[hnm];simp only[Ab4,Cr t am];omega) ?_;refine⟨trivial,by rw[hnm];rfl,?_,?_⟩
    ·rw[hnm,<-hX,<-hxl];have:=PX (f:=f1) (n:=N) (at_:=f1) (x:=X) t am (by omega);rw[this];exact setRow_heap w1 g _ _ _ _ (eb hC hb0l)
    ·exact Ak (Tb hC.grown (some g)) ⟨rfl,rfl,rfl,by simp,fun k _ hk=>setRow_other w1 g k _ (fun e=>hk (by rw[e]))⟩ (fun _ e=> .inl e)
   ·refine Aj rfl fun σ w1 hC h=> ?_;have bh:(fun x w' =>x=NI n/\w'.heap[g]? =some (.cells (hashL s1 (r1.take f1++X++r1.drop (f1+n)) f1 N).toArray 226 (0,0))/\ag.grownBy w' (some g)) (σ 28) w1:=h 28 (by decide);exact Abb rfl ⟨AaY _,bh⟩
  intro a0 ah he hf;obtain⟨-,-,-,-,-,-,-,-,-,-,k4,-⟩:=hf;obtain⟨q,z,T6,-⟩:=he.hold [(0,_),(1,_),(6,_)] ⟨q,z,T6,trivial⟩ rfl;clear he;have k4:(fun x w' =>x=NI n/\w'.heap[g]? =some (.cells (hashL s1 (r1.take f1++X++r1.drop (f1+n)) f1 N).toArray 226 (0,0))/\ag.grownBy w' (some g)) (a0 4) ah:=k4;obtain⟨b6,T4⟩:∃v,a0 4=v:=⟨_,rfl⟩;rw[T4]at k4;have bi:=k4;clear k4;obtain⟨hv4,a1,ao⟩:=bi;rw[hv4]at T4;have hG:Laid ah:=AbC hG ao hh;have hgr:w.grownBy ah (some g):=Ak hgr ao (fun _ e=> .inl e);clear hb0l;have j:=a1;clear a1;obtain⟨r2,ai⟩:∃r2,r2=r1.take f1++X++r1.drop (f1+n):=⟨_,rfl⟩;have hr2l:r2.length=64:=by rw[ai];simp only[AbP,Ab5,Ab6];omega
  have j:ah.heap[g]? =some (.cells (hashL s1 r2 f1 N).toArray 226 (0,0)):=AW j (by rw[<-ai]);refine gX (gS (Aa1 q (gS (Aa0 D8 rfl (gS (XP Tk rfl rfl (cellAt j (Hm t hr2l)) (gS (XR (xv:=NI f1) (yv:=NI n) rfl T4 rfl (Ah _ _ _ (by omega)) (gS (Aa1 q (gS (Aa0 D8 rfl (gS (X5 (i:=72) (v:=NI ((f1)+(n))) rfl rfl j (by rw[Cr t hr2l];omega) Nf rfl rfl fun ap a2 aq b7=> ?_))))))))))))));have hG:Laid ap:=AbC hG aq hh;have hgr:w.grownBy ap (some g):=Ak hgr aq (fun _ e=> .inl e);clear j;have j:=a2;clear a2;have b8:=bl j;have j:ap.heap[g]? =some (.cells (hashL s1 r2 (f1+n) N).toArray 226 (0,0)):=AW j (HV t hr2l);have ab:=Abp ab ao (.inr hv1);have ab:=Abp ab aq (.inr hv1);refine gS (Yn (xs:=c.drop m) (l:=n) F7 PO z ab T4 (a6) fun af y ha29=> ?_);have aj:OB af g:=fun e=>hv1 (ha29.symm.trans e);refine gS (Aa1 q (gS (Aa0 D8 rfl (gS (XP Tk rfl rfl (cellAt j (Hm t hr2l)) (gS (XQ (a:=((f1+n):Nat)) (b:=(64:Nat)) rfl rfl (AI _ _ _ _) ?_)))))));refine cD rfl (fun bj=> ?_) fun bj=> ?_
  ·have hr2f:r2=r1.take f1++X:=by rw[ai,List.drop_of_length_le (by omega),AdG]
   obtain⟨R,hR⟩:∃R,R=Sha.rounds s1 r2:=⟨_,rfl⟩;have HRl:R.length=8:=by rw[hR,Sha.rounds_length _ _ t]
   have hatF:Sha.At ((p++c.take m)++X) R r2:=by rw[hR,hr2f,hf1];exact hat1.fill X (by omega)
   have hfF:0=((p++c.take m)++X).length%64:=by rw[AbP];omega
   refine gR ?_;refine La 12 (fun(a_ b_:AbJ)=>b_.heap[g]? =some (.cells ((cellsU R).toList++(hashL s1 r2 (f1+n) N).drop (cellsU R).size).toArray 226 (0,0))/\a_.grownBy b_ (some g)/\b_.heap.size=a_.heap.size) [Is (PQ g 0),Is (PQ g 0),Is (PQ g 0),Is (PQ g 0),Is (.agg (cellsU s1)),Is (PQ g 0),Is (PQ g 0),Is (PQ g 8),Is (.slice (some ⟨g,8,none⟩) 64 64),Is (.agg (cellsU R)),Is (PQ g 0),Is (PQ g 0),(fun _ _=>True)] (by kernel_rfl) [45,46,47,48,49,50,51,52,53,54,55,56] (by kernel_rfl) (by kernel_rfl) (by kernel_rfl) rfl (Ww ⟨AbE,trivial⟩) (Ww ⟨AbE,trivial⟩) ?bk ?hQ2007
   case bk=>
    refine⟨?_,?_,?_,?_,?_,?_,?_,?_,?_,?_,?_,?_,?_,trivial⟩
    ·refine Aj rfl fun σ w1 hC h=> ?_;have e0:=(AH (h 0 (by decide))).trans q;have hC:Ext _ w1:=hC;exact Aa7 e0 ⟨AaY _,rfl⟩
    ·refine Aj rfl fun σ w1 hC h=> ?_;have e0:=(AH (h 0 (by decide))).trans q;have hC:Ext _ w1:=hC;exact Aa7 e0 ⟨AaY _,rfl⟩
    ·refine Aj rfl fun σ w1 hC h=> ?_;have bm:=AH (h 46 (by decide));have hC:Ext _ w1:=hC;exact Aa1 bm ⟨AaY _,rfl⟩
    ·refine Aj rfl fun σ w1 hC h=> ?_;have bn:=AH (h 47 (by decide));have hC:Ext _ w1:=hC;exact Aa0 Ir bn ⟨AaY _,rfl⟩
    ·refine Aj rfl fun σ w1 hC h=> ?_;have bo:=AH (h 48 (by decide));have hC:Ext _ w1:=hC;exact Ym (cs:=s1.map fun x=>U x) bo (Jk (eb hC j)) AQ rfl (by rw[Ab9,t];exact DO) ⟨AaY _,rfl⟩
    ·refine Aj rfl fun σ w1 hC h=> ?_;have e0:=(AH (h 0 (by decide))).trans q;have hC:Ext _ w1:=hC;exact Aa7 e0 ⟨AaY _,rfl⟩
    ·refine Aj rfl fun σ w1 hC h=> ?_;have bp:=AH (h 50 (by decide));have hC:Ext _ w1:=hC;exact Aa1 bp ⟨AaY _,rfl⟩
    ·refine Aj rfl fun σ w1 hC h=> ?_;have bq:=AH (h 51 (by decide));have hC:Ext _ w1:=hC;exact Aa0 Iq bq ⟨AaY _,rfl⟩
    ·refine Aj rfl fun σ w1 hC h=> ?_;have br:=AH (h 52 (by decide));have hC:Ext _ w1:=hC;exact Yy Kp PO br ⟨AaY _,rfl⟩
    ·refine Aj rfl fun σ w1 hC h=> ?_;have bs:=AH (h 49 (by decide));have bt:=AH (h 53 (by decide));have hC:Ext _ w1:=hC;refine XS Qb bs bt ((PW _ (hG.keep hC) s1 t _ r2 (Vr t hr2l (eb hC j)) hr2l).mono ?_);rintro e w2 ⟨rfl,hx⟩;exact⟨_,rfl,hx,by rw[hR];rfl⟩
    ·refine Aj rfl fun σ w1 hC h=> ?_;have bu:=AH (h 45 (by decide));have hC:Ext _ w1:=hC;exact Aa1 bu ⟨AaY _,rfl⟩
    ·refine Aj rfl fun σ w1 hC h=> ?_;have bv:=AH (h 55 (by decide));have hC:Ext _ w1:=hC;exact Aa0 Ir bv ⟨AaY _,rfl⟩
    ·refine Aj rfl fun σ w1 hC h=> ?_;have bw:=AH (h 56 (by decide));have bx:=AH (h 54 (by decide));have hC:Ext _ w1:=hC;exact Z1 bw bx (eb hC j) (by rw[GK,HRl,Cr t hr2l];omega) (by rw[GK,HRl];exact DO) (EV _) fun w2 h1 h2 h3=>⟨⟨h1,h2,h3⟩,trivial⟩
   intro bz a3 ar au b0 he hf;obtain⟨-,-,-,-,-,-,-,-,-,-,-,-,-⟩:=hf;obtain⟨q,z,T4,T6,-⟩:=he.hold [(0,_),(1,af),(4,_),(6,_)] ⟨q,rfl,T4,T6,trivial⟩ rfl;clear he;have hG:Laid a3:=(hG.keep au);have hgr:w.grownBy a3 (some g):=Ak hgr au.grown (fun _ e=>by cases e);obtain⟨a4,av,b9⟩:=b0;have hG:Laid ar:=AbC hG av hh;have hgr:w.grownBy ar (some g):=Ak hgr av (fun _ e=> .inl e);clear j;have j:=a4;clear a4;have j:ar.heap[g]? =some (.cells (hashL R r2 (f1+n) N).toArray 226 (0,0)):=AW j (by rw[GK,HRl];exact Oy t);refine gX (gS (Aa1 q (gS (Aa0 D8 rfl (gS (X5 (i:=72) (v:=NI 0) rfl rfl j (by rw[Cr HRl hr2l];omega) Nf rfl rfl fun aw a5 ax ca=> ?_))))));have hG:Laid aw:=AbC hG ax hh;have hgr:w.grownBy aw (some g):=Ak hgr ax (fun _ e=> .inl e);clear j;have j:=a5;clear a5;have cb:=bl j;have j:aw.heap[g]? =some (.cells (hashL R r2 0 N).toArray 226 (0,0)):=AW j (HV HRl hr2l);have y:=y.keep au;have y:=Abp y av (.inr aj);have y:=Abp y ax (.inr aj);refine gK (Acr ⟨m+n,R,r2,0,af,q,T6,z,hG,hgr,(show RB _ _ _ from(by rw[<-Ahg];exact y)),AW j (rfl),by omega,by rw[<-htk];exact hatF,by rw[<-htk];exact hfF,aj,trivial⟩ ?_);show BF (bz 1)<BF (az 1);rw[z,q1];have q3:=y.sliceLen;have q4:=ql1;rw[q3,q4];simp only[Ab6];omega
  have hatP:Sha.At ((p++c.take m)++X) s1 r2:=by rw[ai,<-hxl,hf1];exact hat1.put X (by omega)
  have hfP:f1+n=((p++c.take m)++X).length%64:=by rw[AbP];omega
  refine gK (Acr ⟨m+n,s1,r2,f1+n,af,q,T6,rfl,hG,hgr,(show RB _ _ _ from(by rw[<-Ahg];exact y)),AW j (rfl),by omega,by rw[<-htk];exact hatP,by rw[<-htk];exact hfP,aj,trivial⟩ ?_);show BF (af)<BF (az 1);rw[q1];have q3:=y.sliceLen;have q4:=ql1;rw[q3,q4];simp only[Ab6];omega
 have hcF:=hc1';refine rt0 rfl ?_;have hml:m=c.length:=by have:=hcF;simp at this;omega
 subst hml;refine⟨rfl,⟨s1,r1,by simpa using hat1,?_⟩,hgr⟩;have e1:f1=(p++c).length%64:=by simpa using hf1
 have e2:N=(p++c).length:=by rw[<-hN,AbP]
 rw[<-e1,<-e2];exact hb0l
theorem RR(s:List UInt32)(r:Ah5)(f n:Nat):∀v∈(hashL s r f n).toArray.toList,v.oneCell' =true:=by
 intro v hv;simp[hashL,AbK]at hv;rcases hv with ⟨_,_,rfl⟩ | ⟨_,_,rfl⟩ | rfl | rfl <;> rfl
namespace Sha
def outs(s:List UInt32)(i:Nat):Ah5:=(out s).take (4*i)++AbX (32-4*i) 0
theorem out_length:∀s:List UInt32,(out s).length=4*s.length
 | []=>rfl
 | x :: s=>by
  have:=out_length s;unfold out at *;rw[AcJ,AbP,this];simp;omega
theorem outs_length(s:List UInt32)(hs:s.length=8)(i:Nat)(hi:i<=8):(outs s i).length=32:=by
 unfold outs;rw[AbP,Ab5,Ab8,out_length,hs];omega
theorem outs_all(s:List UInt32)(hs:s.length=8):outs s 8=out s:=by
 unfold outs;rw[AcD (by rw[out_length,hs];exact AbO _)];simp
theorem outs_step(s:List UInt32)(hs:s.length=8)(i:Nat)(hi:i<8):
  ((((outs s i).set (4*i) (s.getD i 0>>>24).toUInt8).set (4*i+1) (s.getD i 0>>>16).toUInt8).set (4*i+2) (s.getD i 0>>>8).toUInt8).set (4*i+3) (s.getD i 0).toUInt8=outs s (i+1):=by
 match s,hs with
 | [a,b,c,d,e,f,g,h],_=>
  have:i=0\/i=1\/i=2\/i=3\/i=4\/i=5\/i=6\/i=7:=by omega
  rcases this with rfl | rfl | rfl | rfl | rfl | rfl | rfl | rfl <;> rfl
theorem sum_length(p:Ah5):(sum p).length=32:=by
 unfold sum;rw[out_length,blocks_length _ _ _ rfl]
end Sha
theorem Jo:(Tryz.prog.info? 226).map (·.size)=some 74:=by kernel_rfl
theorem Qc:∃fs,Tryz.prog.underlying 226=some (.struct fs):=Fs (by kernel_rfl)
theorem Qd{d:Option Tmp}{ty:AbQ}{pos:String}{af:Array Edge}{gd:Option (Nat × Bool)}(σ:AbV->AbI)(w:AbJ):(execOp σ ⟨d, .alloc 226,ty,pos,af,gd⟩).run AbL w = .ok (.value (PQ w.heap.size 0)) (w.alloc (.cells (hashL (AbX 8 0) (AbX 64 0) 0 0).toArray 226)):=by kernel_rfl
theorem Kq:Tryz.prog.underlying 228=some (.int .u64):=by kernel_rfl
theorem RS:Plain AbL 82:=fun _ _=>by kernel_rfl
theorem RT(w:AbJ)(hG:Laid w)(g:Nat)(p:Ah5)(hH:HashAt w g p)(hp:p.length<1152921504606846976):
  Calls AbL 83 #[PQ g 0] w fun e w' =>e = .returned (AB (Sha.sum p))/\Ext w w' :=by
 obtain⟨s,r,hat,c⟩:=hH;have hs:=hat.slen;have hr:=hat.len;obtain⟨f,hf⟩:∃f,f=p.length%64:=⟨_,rfl⟩;obtain⟨N,hN⟩:∃N,p.length=N:=⟨_,rfl⟩;rw[<-hf,hN]at c;have hw2:1<w.heap.size:=hG.two;refine gG (args:= [PQ g 0]) Tryz.func83 rfl 85 rfl rfl ?_;have hE:=AaY w;refine gS (Aa3 Tn fun n2 w3 b4 bf bg ct=> ?_);have cu:=As (bl c) b4;have h:=bf;clear bf;have cv:n2<w3.heap.size:=by omega
 have c:=eb bg c;refine gS (Ye sha6_ty147 rfl (cF rfl (gS (Aa1 rfl (gS (XU rfl c (Qc).choose_spec rfl (by rw[Ab4,Cr hs hr];exact Jo) (gS (Aa3 Qd fun y b5 bh bi a4 cw=> ?_))))))));have m:=AaY w3;have hE:=hE.trans bg;have bj:=hE.size;have cx:=As (bl c) bh;have cy:=As (bl h) bh;have o:=bi;clear bi;have cz:y<b5.heap.size:=by omega
 refine gS (XT (vr (PQ y 0) rfl) (vr (.agg (hashL s r f N).toArray) rfl) o (by rw[Ab4,Ab4,Cr hs hr];rfl) (by rw[Ab4,Cr hs hr];exact Jo) (RR s r f N) fun af bk a5 c0=> ?_);have c:=eb a4 c;have c:=kb a5 c (by omega);have hE:=hE.trans a4;have hE:=Ab hE a5 (AbM bj (by omega));have h:=eb a4 h;have h:=kb a5 h (by omega);have m:=m.trans a4;have m:=Ab m a5 (AbM (AbO _) (by omega));clear o;have o:=bk;clear bk;have c1:=bl o;refine gS (YW (b:=128) Ru (vr (B8 (128)) rfl) fun a6 c2 ag=> ?_);have q:=AaY af;have bm:=hE.size;have bn:=m.size;have b6:OB a6 g:=EN ag.own (bl c);have b7:OB a6 n2:=EN ag.own (bl h);have b8:OB a6 y:=EN ag.own (bl o);have bo:=ag.own;have c:=eb ag.ext c;have hE:=hE.trans ag.ext;have h:=eb ag.ext h;have m:=m.trans ag.ext;have o:=eb ag.ext o;have q:=q.trans ag.ext;refine gL (fun(ρ:Ac) (wz:AbJ)=>∃k:Nat,∃v4:AbI,ρ 0=(PQ g 0:AbI)/\ρ 2=(PQ n2 0:AbI)/\ρ 3=(PQ y 0:AbI)/\ρ 11=(.bool (false):AbI)/\ρ 4=(v4:AbI)/\wz.heap[g]? =some (.cells (hashL s r f N).toArray 226 (0,0))/\Ext w wz/\wz.heap[n2]? =some (.cells (AbK (AbX 32 0)).toArray 33 (0,0))/\Ext w3 wz/\wz.heap[y]? =some (.cells (hashL s r f N).toArray 226 (0,0))/\Ext af wz/\wz.ownsRow af.heap.size 5 1 v4 (128 :: AbX k 0:Ah5).length (AbK (128 :: AbX k 0))/\(k<=(119-N%64)%64)/\(OB v4 g)/\(OB v4 n2)/\(OB v4 y)/\True) (fun ρ _=>65-BF (ρ 4)) ⟨0,a6,rfl,rfl,rfl,rfl,rfl,c,hE,h,m,o,q,Dj bo (rfl),Ack _,b6,b7,b8,trivial⟩ ?_;clear bo;clear c hE h m o q;rintro b9 ca ⟨k,v4,T0,T2,T3,ao,T4,c,hE,h,m,o,q,ho_v4,hk,hap_v4_g,hap_v4_n2,hap_v4_n14,-⟩;have q4:=T4;have ql4:=ES ho_v4;refine gS (Aa1 T0 (gS (Aa0 sha6_fo226_3 rfl (gS (XP Tk rfl rfl (cellAt c (hashL_size hs hr)) (gS (XZ F7 (XV (Ya ho_v4) T4) (gS (XR (xv:=NI N) (yv:=NI ((128 :: AbX k 0:Ah5).length)) rfl rfl rfl (Ah _ _ _ (by simp;omega)) (gS (XR (xv:=NI ((N)+((128 :: AbX k 0:Ah5).length))) (yv:=NI 64) rfl rfl rfl (FZ _ _ _ (by omega)) (gS (XQ (a:=(((N)+((128 :: AbX k 0:Ah5).length))%(64):Nat)) (b:=(56:Nat)) rfl rfl (AV _ _ _ _) ?_)))))))))))));refine cD rfl (fun bb=> ?_) fun bb=> ?_
 ·refine gS (YW (b:=0) Ru (vr (B8 (0)) rfl) fun bp cb al=> ?_);have c3:=hE.size;have c4:=m.size;have c5:=q.size;have cc:Ae v4 bp:=DF ho_v4 al.own;have bc:=al.own;have q:=q.trans al.ext;have ho_v4:=Aa5 _ _ _ _ _ _ _ _ ho_v4 al.ext;refine gS (Yh _ _ af.heap.size (.int .u8 0) F7 MM rfl F7 (128 :: AbX k 0) ([(0:UInt8)]) (CV ho_v4 T4) (XV (Ya bc) (vr bp rfl)) (by simp;omega) q.size fun ax cd bq ac=> ?_);have ac:Grew cb cd v4 ax:= .eqv T4 ac;have c:=eb al.ext c;have ce:OB ax g:=Ap ac hap_v4_g (bl c);have h:=eb al.ext h;have cf:OB ax n2:=Ap ac hap_v4_n2 (bl h);have o:=eb al.ext o;have cg:OB ax y:=Ap ac hap_v4_n14 (bl o);have c:=Ar c ac hap_v4_g;have hE:=hE.trans al.ext;have hE:=Ao hE ac ho_v4 bm;have h:=Ar h ac hap_v4_n2;have m:=m.trans al.ext;have m:=Ao m ac ho_v4 bn;have o:=Ar o ac hap_v4_n14;have q:=Ao q ac ho_v4 (AbO _);have bc:=Dr bc ac cc;clear ho_v4;refine gK (Acr ⟨k+1,ax,T0,T2,T3,ao,rfl,c,hE,h,m,o,q,Dj bq (by simp[List.replicate_succ']),by simp at bb;omega,ce,cf,cg,trivial⟩ ?_);show 65-BF (ax)<65-BF (b9 4);rw[q4];have qn:=ES bq;rw[qn,ql4];simp;omega
 refine gS (Aa1 T0 (gS (Aa0 sha6_fo226_3 rfl (gS (XP Tk rfl rfl (cellAt c (hashL_size hs hr)) (gS (Yt Tk Kq rfl (JB (N) (by omega)) (gS (XR (xv:= .int .u64 ((N:Nat):Int)) (yv:= .int .u64 ((8:Nat):Int)) rfl rfl rfl (Vi _ _ _ (by omega)) ?_)))))))));obtain⟨Z,hZ⟩:∃Z,Z=(128:UInt8) :: AbX k 0:=⟨_,rfl⟩;have ho_v4:ca.ownsRow af.heap.size 5 1 v4 (Z:Ah5).length (AbK (Z)):=(hZ.symm:128 :: AbX k 0=Z)▸ho_v4;have hZl:Z.length=1+k:=by rw[hZ];simp;omega
 refine gL (fun(ρ:Ac) (wz:AbJ)=>∃i:Nat,∃z:AbI,ρ 0=(PQ g 0:AbI)/\ρ 2=(PQ n2 0:AbI)/\ρ 3=(PQ y 0:AbI)/\ρ 5=(.int .u64 (((N)*(8):Nat):Int):AbI)/\ρ 11=(.bool (false):AbI)/\ρ 36=(NI i:AbI)/\ρ 4=(z:AbI)/\wz.heap[g]? =some (.cells (hashL s r f N).toArray 226 (0,0))/\Ext w wz/\wz.heap[n2]? =some (.cells (AbK (AbX 32 0)).toArray 33 (0,0))/\Ext w3 wz/\wz.heap[y]? =some (.cells (hashL s r f N).toArray 226 (0,0))/\Ext af wz/\wz.ownsRow af.heap.size 5 1 z (Z++(Sha.be64 (8*N)).take i:Ah5).length (AbK (Z++(Sha.be64 (8*N)).take i))/\(i<=8)/\(OB z g)/\(OB z n2)/\(OB z y)/\True) (fun ρ _=>8-(intOf (ρ 36)).toNat) ⟨0,v4,T0,T2,T3,rfl,ao,rfl,T4,c,hE,h,m,o,q,Dj ho_v4 (by simp),by omega,hap_v4_g,hap_v4_n2,hap_v4_n14,trivial⟩ ?_;clear ho_v4;clear c hE h m o q;rintro ch ci ⟨i,z,T0,T2,T3,T5,ao,ap,T4,c,hE,h,m,o,q,n,hi,hap_v5_g,hap_v5_n2,hap_v5_n14,-⟩;have q36:=ap;have ql4:=ES n;refine gS (XQ (a:=(i:Nat)) (b:=(8:Nat)) ap rfl (AK _ _ _ _) ?_);refine cD rfl (fun br=> ?_) fun br=> ?_
 ·refine gS (XR (xv:=NI 8) (yv:=NI i) rfl ap rfl (Ci _ _ _ (by omega)) (gS (XR (xv:=NI 56) (yv:=NI ((8)*(i))) rfl rfl rfl (BB _ _ _ (by omega) (by omega)) (gS (XR (xv:= .int .u64 (((N)*(8):Nat):Int)) (yv:=NI ((56)-((8)*(i)))) T5 rfl rfl (Vk _ _ _ _ (by omega)) (gS (Yt Kq u5 rfl (GY (((N)*(8))/2^((56)-((8)*(i))))) (gS (YW (b:=UInt8.ofNat (((N)*(8))/2^((56)-((8)*(i))))) Ru (vr (B8 (UInt8.ofNat (((N)*(8))/2^((56)-((8)*(i)))))) rfl) fun bs cj am=> ?_)))))))));have c6:=hE.size;have c7:=m.size;have c8:=q.size;have ck:Ae z bs:=DF n am.own;have bd:=am.own;have q:=q.trans am.ext;have n:=Aa5 _ _ _ _ _ _ _ _ n am.ext;refine gS (Yh _ _ af.heap.size (.int .u8 0) F7 MM rfl F7 (Z++(Sha.be64 (8*N)).take i) ([(UInt8.ofNat (((N)*(8))/2^((56)-((8)*(i)))):UInt8)]) (CV n T4) (XV (Ya bd) (vr bs rfl)) (by simp[Sha.be64];omega) q.size fun a1 cl cm ad=> ?_);have ad:Grew cj cl z a1:= .eqv T4 ad;have c:=eb am.ext c;have cn:OB a1 g:=Ap ad hap_v5_g (bl c);have h:=eb am.ext h;have co:OB a1 n2:=Ap ad hap_v5_n2 (bl h);have o:=eb am.ext o;have cp:OB a1 y:=Ap ad hap_v5_n14 (bl o);have c:=Ar c ad hap_v5_g;have hE:=hE.trans am.ext;have hE:=Ao hE ad n bm;have h:=Ar h ad hap_v5_n2;have m:=m.trans am.ext;have m:=Ao m ad n bn;have o:=Ar o ad hap_v5_n14;have q:=Ao q ad n (AbO _);have bd:=Dr bd ad ck;clear n;refine gS (XR (xv:=NI i) (yv:=NI 1) ap rfl rfl (Ah _ _ _ (by omega)) (gK (Acr ⟨i+1,a1,T0,T2,T3,T5,ao,rfl,rfl,c,hE,h,m,o,q,Dj cm (by rw[ZA _ _ br,Acj,Nat.mul_comm N 8]),by omega,cn,co,cp,trivial⟩ ?_)));show 8-(intOf (NI ((i)+(1)))).toNat<8-(intOf (ch 36)).toNat;rw[q36];simp only[intOf,Ab0];omega
 obtain⟨Q,hQ⟩:∃Q,Q=Z++(Sha.be64 (8*N)).take i:=⟨_,rfl⟩;have n:ci.ownsRow af.heap.size 5 1 z (Q:Ah5).length (AbK (Q)):=(hQ.symm:Z++(Sha.be64 (8*N)).take i=Q)▸n;have hQt:Q=Sha.tail p.length:=by simp at bb;rw[hQ,hZ,show i=8 by omega,show k=(119-p.length%64)%64 by omega,AcD (by simp[Sha.be64]),<-hN];simp[Sha.tail]
 have hQl:Q.length<=100:=by rw[hQ];simp[Sha.be64];omega
 refine gS (XS RS T3 T4 ((LR _ (hG.keep hE) y (by omega) p ⟨s,r,hat,by rw[<-hf,hN];exact o⟩ z Q (Ya n) hap_v5_n14 (by omega)).mono ?_));rintro e bt ⟨rfl,⟨s2,r2,hat2,t⟩,a2⟩;refine⟨_,rfl,?_⟩;have c:=kb a2 c (by omega);have hE:=Ab hE a2 (AbM bj (by omega));have h:=kb a2 h (by omega);have m:=Ab m a2 (AbM (AbO _) (by omega));clear q;have n:=BK n a2 hap_v5_n14;clear o;have ae:=hat2.slen;have c9:=hat2.len;refine gS (Aa3 Tn fun a7 cq be bu aq da=> ?_);have u:=AaY bt;have a8:=hE.size;have a9:=m.size;have db:=As (bl c) be;have dc:=As (bl h) be;have dd:=As (bl t) be;have ba:OB z a7:=A9 n (by omega);have bv:=bu;clear bu;have de:a7<cq.heap.size:=by omega
 have c:=eb aq c;have hE:=hE.trans aq;have h:=eb aq h;have m:=m.trans aq;have n:=Aa5 _ _ _ _ _ _ _ _ n aq;have t:=eb aq t;have u:=u.trans aq;refine gS (Aa0 Ir T3 (gS (Ym (cs:=s2.map fun x=>U x) rfl (Jk t) AQ rfl (by rw[Ab9,ae];exact DO) (gL (fun(ρ:Ac) (wz:AbJ)=>∃j:Nat,ρ 0=(PQ g 0:AbI)/\ρ 2=(PQ n2 0:AbI)/\ρ 3=(PQ y 0:AbI)/\ρ 4=(z:AbI)/\ρ 5=(.int .u64 (((N)*(8):Nat):Int):AbI)/\ρ 7=(PQ a7 0:AbI)/\ρ 11=(.bool (false):AbI)/\ρ 36=(NI i:AbI)/\ρ 52=(.agg (s2.map fun x=>U x).toArray:AbI)/\ρ 53=(NI j:AbI)/\wz.heap[g]? =some (.cells (hashL s r f N).toArray 226 (0,0))/\Ext w wz/\wz.heap[n2]? =some (.cells (AbK (AbX 32 0)).toArray 33 (0,0))/\Ext w3 wz/\wz.ownsRow af.heap.size 5 1 z (Q:Ah5).length (AbK (Q))/\wz.heap[y]? =some (.cells (hashL s2 r2 ((p++Q).length%64) (p++Q).length).toArray 226 (0,0))/\Ext bt wz/\wz.heap[a7]? =some (.cells (AbK (Sha.outs s2 j)).toArray 33 (0,0))/\(j<=8)/\True) (fun ρ _=>8-(intOf (ρ 53)).toNat) ⟨0,T0,T2,T3,T4,T5,rfl,ao,ap,rfl,rfl,c,hE,h,m,n,t,u,AW bv (rfl),by omega,trivial⟩ ?_))));clear bv;clear c hE h m n t u;rintro cr df ⟨j,T0,T2,T3,T4,T5,T7,ao,ap,bw,an,c,hE,h,m,n,t,u,hb128l,hj,-⟩;have q53:=an;refine gS (XQ (a:=(j:Nat)) (b:=(8:Nat)) an rfl (AK _ _ _ _) ?_);refine cD rfl (fun bx=> ?_) fun bx=> ?_
 ·refine gS (ZW (l:=s2) (i:=j) AQ AF rfl AG bw an (by omega) (ae) (gS (XR (xv:=NI 4) (yv:=NI j) rfl an rfl (Ci _ _ _ (by omega)) (gS (XR (xv:=NI 4) (yv:=NI j) rfl an rfl (Ci _ _ _ (by omega)) (gS (XR (xv:=NI ((4)*(j))) (yv:=NI 1) rfl rfl rfl (Ah _ _ _ (by omega)) (gS (XR (xv:=NI 4) (yv:=NI j) rfl an rfl (Ci _ _ _ (by omega)) (gS (XR (xv:=NI ((4)*(j))) (yv:=NI 2) rfl rfl rfl (Ah _ _ _ (by omega)) (gS (XR (xv:=NI 4) (yv:=NI j) rfl an rfl (Ci _ _ _ (by omega)) (gS (XR (xv:=NI ((4)*(j))) (yv:=NI 3) rfl rfl rfl (Ah _ _ _ (by omega)) (gS (XR rfl rfl rfl (I1 _ _ _ 24 (by decide)) (gS (Y1 AF u5 rfl (gS (XR rfl rfl rfl (I1 _ _ _ 16 (by decide)) (gS (Y1 AF u5 rfl (gS (XR rfl rfl rfl (I1 _ _ _ 8 (by decide)) (gS (Y1 AF u5 rfl (gS (Y1 AF u5 rfl (gS (X3 (i:=(4)*(j)) U7 PO T7 rfl (by omega) ?_)))))))))))))))))))))))))))))));refine gS (YS (i:=(4)*(j)) (v:=((s2.getD (j) 0)>>>24).toUInt8) rfl rfl hb128l (by rw[Sha.outs_length _ ae _ (by omega)];omega) WC fun dh bz ar di=> ?_);have c:=kb ar c (by omega);have hE:=Ab hE ar (AbM a8 (by omega));have h:=kb ar h (by omega);have m:=Ab m ar (AbM a9 (by omega));have n:=BK n ar ba;have t:=kb ar t (by omega);have u:=Ab u ar (AbM (AbO _) (by omega));clear hb128l;have hb128l:=bz;clear bz;have dj:=bl hb128l;refine gS (X3 (i:=((4)*(j))+(1)) U7 PO T7 rfl (by omega) (gS (YS (i:=((4)*(j))+(1)) (v:=((s2.getD (j) 0)>>>16).toUInt8) rfl rfl hb128l (by rw[Adq,Sha.outs_length _ ae _ (by omega)];omega) WC fun dk b0 au dl=> ?_)));have c:=kb au c (by omega);have hE:=Ab hE au (AbM a8 (by omega));have h:=kb au h (by omega);have m:=Ab m au (AbM a9 (by omega));have n:=BK n au ba;have t:=kb au t (by omega);have u:=Ab u au (AbM (AbO _) (by omega));clear hb128l;have hb128l:=b0;clear b0;have dm:=bl hb128l;refine gS (X3 (i:=((4)*(j))+(2)) U7 PO T7 rfl (by omega) (gS (YS (i:=((4)*(j))+(2)) (v:=((s2.getD (j) 0)>>>8).toUInt8) rfl rfl hb128l (by rw[Adq,Adq,Sha.outs_length _ ae _ (by omega)];omega) WC fun dn b1 av dp=> ?_)));have c:=kb av c (by omega);have hE:=Ab hE av (AbM a8 (by omega));have h:=kb av h (by omega);have m:=Ab m av (AbM a9 (by omega));have n:=BK n av ba;have t:=kb av t (by omega);have u:=Ab u av (AbM (AbO _) (by omega));clear hb128l;have hb128l:=b1;clear b1;have dq:=bl hb128l;refine gS (X3 (i:=((4)*(j))+(3)) U7 PO T7 rfl (by omega) (gS (YS (i:=((4)*(j))+(3)) (v:=(s2.getD (j) 0).toUInt8) rfl rfl hb128l (by rw[Adq,Adq,Adq,Sha.outs_length _ ae _ (by omega)];omega) WC fun dr b2 aw ds=> ?_)));have c:=kb aw c (by omega);have hE:=Ab hE aw (AbM a8 (by omega));have h:=kb aw h (by omega);have m:=Ab m aw (AbM a9 (by omega));have n:=BK n aw ba;have t:=kb aw t (by omega);have u:=Ab u aw (AbM (AbO _) (by omega));clear hb128l;have hb128l:=b2;clear b2;have dt:=bl hb128l;refine gS (XR (xv:=NI j) (yv:=NI 1) an rfl rfl (Ah _ _ _ (by omega)) (gK (Acr ⟨j+1,T0,T2,T3,T4,T5,T7,ao,ap,bw,rfl,c,hE,h,m,n,t,u,AW hb128l (congrArg AbK (Sha.outs_step s2 ae j bx)),by omega,trivial⟩ ?_)));show 8-(intOf (NI ((j)+(1)))).toNat<8-(intOf (cr 53)).toNat;rw[q53];simp only[intOf,Ab0];omega
 refine gS (XU T7 hb128l U7 rfl (by rw[Ab4,AbZ,Sha.outs_length _ ae _ (by omega)];exact Rl) (gS (XT T2 (vr (AB (Sha.outs s2 j)) rfl) h (by rw[Ab4,AbZ,Sha.outs_length _ ae _ (by omega)];rfl) (by rw[Ab4,AbZ,Sha.outs_length _ ae _ (by omega)];exact Rl) (Ag _) fun du b3 a3 dv=> ?_)));have c:=kb a3 c (by omega);have hE:=Ab hE a3 (AbM (AbO _) (by omega));clear m;have n:=BK n a3 hap_v5_n2;have t:=kb a3 t (by omega);clear u;have hb128l:=kb a3 hb128l (by omega);clear h;have h:=b3;clear b3;have dw:=bl h;refine LI rfl (Aa9 T2 h U7 rfl (by rw[Ab4,AbZ,Sha.outs_length _ ae _ (by omega)];exact Rl)) ?_;refine⟨?_,hE⟩;have e:Sha.outs s2 j=Sha.sum p:=by rw[show j=8 by omega,Sha.outs_all s2 ae,hat2.state,hQt];rfl
 rw[e]
theorem HashAt.other{w w' :AbJ}{g b:Nat}{p:Ah5}(h:HashAt w g p)(hg:w.grownBy w' (some b))(hne:g≠b):HashAt w' g p:=by
 obtain⟨s,r,h1,h2⟩:=h;exact⟨s,r,h1,(hg.block g (bl h2) (by simpa using hne)).trans h2⟩
theorem It(ls:List Ah5)(i:Nat)(hi:i<ls.length):(ls.take (i+1)).flatten=(ls.take i).flatten++ls.getD i []:=by
 rw[Acn hi,AhF];simp[hi]
theorem Kr(ls:List Ah5)(i:Nat)(hi:i<ls.length):(ls.take i).flatten.length+(ls.getD i []).length<=ls.flatten.length:=by
 have h1:=It ls i hi;have h2:ls.flatten=(ls.take (i+1)).flatten++(ls.drop (i+1)).flatten:=by rw[<-AhF,List.take_append_drop]
 rw[h2,h1];simp only[AbP];omega
theorem RU:Plain AbL 81:=fun _ _=>by kernel_rfl
theorem LS:Tryz.prog.underlying 38=some (.slice 27):=by kernel_rfl
theorem RV:∀w' :AbJ,(sizeOf 27).run AbL w' = .ok 1 w' :=fun _=>by kernel_rfl
theorem RW:Plain AbL 83:=fun _ _=>by kernel_rfl
theorem Le(w:AbJ)(g:Nat)(p:Ah5)(hH:HashAt w g p)(v:AbI)(hc:RB w v [])(hb:p.length<4611686018427387904):
  Calls AbL 82 #[PQ g 0,v] w fun e w' =>e = .returned (.tuple #[])/\HashAt w' g p/\w.grownBy w' (some g):=by
 obtain⟨s,r,hat,c⟩:=hH;have hs:=hat.slen;have hr:=hat.len;obtain⟨f,hf⟩:∃f,f=p.length%64:=⟨_,rfl⟩;rw[<-hf]at c;have hgr:w.grownBy w (some g):=World.grownBy.refl _ _;refine gG (args:= [PQ g 0,v]) Tryz.func82 rfl 60 rfl rfl (gS (Ye sha6_ty147 rfl (cF rfl (gS (Aa1 rfl (gS (Aa0 sha6_fo226_3 rfl (gS (XP Tk rfl rfl (cellAt c (hashL_size hs hr)) (gS (XZ F7 (XV hc rfl) (gS (XR (xv:=NI p.length) (yv:=NI ((([]:Ah5):Ah5).length)) rfl rfl rfl (Ah _ _ _ (by simp;omega)) (gS (Aa1 rfl (gS (Aa0 sha6_fo226_3 rfl (gS (X5 (i:=73) (v:=NI ((p.length)+((([]:Ah5):Ah5).length))) rfl rfl c (by rw[Cr hs hr];omega) Nf rfl rfl fun h j k m=> ?_)))))))))))))))))));have hc:RB h v ([]:Ah5):=Aag hc;have hgr:w.grownBy h (some g):=Ak hgr k (fun _ e=> .inl e);clear c;have c:=j;clear j;have n:=bl c;have c:h.heap[g]? =some (.cells (hashL s r f p.length).toArray 226 (0,0)):=AW c (HW hs hr);refine gL (fun(ρ:Ac) (wz:AbJ)=>ρ 0=(PQ g 0:AbI)/\ρ 6=(.bool (false):AbI)/\ρ 1=(v:AbI)/\RB wz v ([]:Ah5)/\w.grownBy wz (some g)/\wz.heap[g]? =some (.cells (hashL s r f p.length).toArray 226 (0,0))/\True) (fun ρ _=>0) ⟨rfl,rfl,rfl,hc,hgr,c,trivial⟩ ?_;clear hc hgr c;rintro o q ⟨t,u,l,hc,hgr,c,-⟩;refine gS (XZ F7 (XV hc l) (gS (XQ (a:=((([]:Ah5):Ah5).length:Nat)) (b:=(0:Nat)) rfl rfl (Bh _ _ _ _) (cF ((rfl).trans (congrArg Value.bool (decide_eq_false (by simp)))) (rt0 rfl ?_)))));exact⟨rfl,⟨s,r,hat,by rw[<-hf];exact c⟩,hgr⟩
theorem RX(w:AbJ)(hG:Laid w)(g:Nat)(hh:1<g)(p:Ah5)(hH:HashAt w g p)(v:AbI)(c:Ah5)(hc:RB w v c)(hv:0<c.length->v.ownBlock≠some g)(hb:p.length+c.length<4611686018427387904):
  Calls AbL 82 #[PQ g 0,v] w fun e w' =>e = .returned (.tuple #[])/\HashAt w' g (p++c)/\w.grownBy w' (some g):=by
 by_cases h0:0<c.length
 ·exact LR w hG g hh p hH v c hc (hv h0) hb
 ·have:c= []:=List.eq_nil_of_length_eq_zero (by omega);subst this;rw[AdG];exact Le w g p hH v hc (by simpa using hb)
theorem Ph(w:AbJ)(hG:Laid w)(v:AbI)(ls:List Ah5)(hls:RBs w v ls)(hb:ls.flatten.length<1152921504606846976)(hlen:ls.length<1152921504606846976):
   Calls AbL 45 #[v] w fun e w' =>e = .returned (AB (Sha.sum ls.flatten))/\Ext w w' :=by
 have hw2:1<w.heap.size:=hG.two;refine gG (args:= [v]) Tryz.func45 rfl 19 rfl rfl ?_;have hE:=AaY w;refine gS (Aa3 Tn fun g j ag p aa ah=> ?_);have c:=p;clear p;have ai:g<j.heap.size:=by omega
 have hE:=hE.trans aa;refine gS (Zv RU ((Vt _ (hG.keep hE)).mono ?_));rintro e aj ⟨gH,rfl,q,r,k⟩;refine⟨_,rfl,?_⟩;have f:=AaY j;have ab:=hE.size;have ak:g<gH:=by have:=(bl c);omega
 have hE:=hE.trans k;have c:=eb k c;have f:=f.trans k;refine gS (Aai LS (AaU (hls.keep hE) rfl) (gL (fun(ρ:Ac) (wz:AbJ)=>∃i:Nat,ρ 0=(v:AbI)/\ρ 2=(PQ g 0:AbI)/\ρ 3=(PQ gH 0:AbI)/\ρ 7=(v:AbI)/\ρ 8=(NI ls.length:AbI)/\ρ 9=(NI i:AbI)/\Ext w wz/\wz.heap[g]? =some (.cells (AbK (AbX 32 0)).toArray 33 (0,0))/\Ext j wz/\HashAt wz gH ((ls.take i).flatten)/\(i<=ls.length)/\True) (fun ρ _=>ls.length-(intOf (ρ 9)).toNat) ⟨0,rfl,rfl,rfl,rfl,rfl,rfl,hE,c,f,by simpa using r,Ack _,trivial⟩ ?_));clear r;clear hE c;rintro ac al ⟨i,T0,l,m,s,t,h,hE,c,f,hHi,hi,-⟩;have q9:=h;refine gS (XQ (a:=(i:Nat)) (b:=(ls.length:Nat)) h t (AK _ _ _ _) ?_);refine cD rfl (fun hi3=> ?_) fun hi3=> ?_
 ·refine gS (Aah (ls:=ls) (i:=i) hE LS RV hls s h (hi3) fun am ae u x=>(gS (X4 F7 rfl (Yb u rfl) ?_)));clear u;refine gS (XS RS m rfl ((RX _ (hG.keep hE) gH (by omega) ((ls.take i).flatten) hHi ae (ls.getD (i) []) (x.keep hE) (fun h0 hb=>by have:=RB.lt x h0 hb;omega) (by have:=Kr ls i hi3;omega)).mono ?_));rintro e an ⟨rfl,af,n⟩;refine⟨_,rfl,?_⟩;clear hHi;have hE:=Ab hE n (AbM ab q);have c:=kb n c (by omega);have f:=Ab f n (AbM (AbO _) q);refine gS (XR (xv:=NI i) (yv:=NI 1) h rfl rfl (Ah _ _ _ (by have:=hlen;omega)) (gK (Acr ⟨i+1,T0,l,m,s,t,rfl,hE,c,f,(show HashAt _ _ _ from by rw[It ls i hi3];exact af),by omega,trivial⟩ ?_)));show ls.length-(intOf (NI ((i)+(1)))).toNat<ls.length-(intOf (ac 9)).toNat;rw[q9];simp only[intOf,Ab0];omega
 have hfl:(ls.take i).flatten=ls.flatten:=by rw[AcD (by omega)]
 have hfl2:=congrArg List.length hfl;refine gS (XX RW m ((RT _ (hG.keep hE) gH ((ls.take i).flatten) hHi (by omega)).mono ?_));rintro e ao ⟨rfl,o⟩;refine⟨_,rfl,?_⟩;have c:=eb o c;refine gS (XT l (vr (AB (Sha.sum ((ls.take i).flatten))) rfl) c (by rw[Ab4,AbZ,Sha.sum_length];rfl) (by rw[Ab4,AbZ,Sha.sum_length];exact Rl) (Ag _) fun ap y z aq=> ?_);clear f;have hHi:=hHi.keep o;have hHi:=HashAt.other hHi z (by omega);clear c;have c:=y;clear y;have ar:=bl c;refine LI rfl (Aa9 l c U7 rfl (by rw[Ab4,AbZ,Sha.sum_length];exact Rl)) ?_;rw[hfl];have hE:=hE.trans o;have hE:=Ab hE z (AbM (AbO _) (by omega));exact⟨rfl,hE⟩
namespace Sha
end Sha
structure Pt where
 v:AbI
 bytes:Bs
 base:Int
def AA:Pt:=⟨.slice none 0 0,[],0⟩
def partC(p:Pt):List AbI:= [p.v, .int .i64 p.base]
def Lf(w:AbJ)(ps:List Pt):Prop:=∀p∈ps,RB w p.v p.bytes /\ -9223372036854775808<=p.base/\p.base<=9223372036854775807
theorem partC_one{p:Pt}(h:p.v.cells = #[p.v]/\p.v.oneCell' =true):∀u∈partC p,u.oneCell' =true:=by
 intro u hu;simp only[partC,Acy,List.not_mem_nil,or_false]at hu;rcases hu with rfl | rfl
 ·exact h.2
 ·rfl
structure BS where
 b:Bs
 ids:List Bs
 places:List Nat
 depths:List Nat
 total:Nat
def Bn(s:Bs):Bs:=Ab3 s.length++s
def Dl(p:Pt)(s:BS):Nat:=if p.base<0 then 0 else s.depths.getD p.base.toNat 0+1
def bnext(ps:List Pt)(p:Pt)(s:BS):BS:=
  { b:=if p.base<0 then s.b++ [0]++Bn p.bytes else s.b++ [1]++s.ids.getD p.base.toNat []++Bn (BV (ps.getD p.base.toNat AA).bytes p.bytes)
    ids:=s.ids++ [Sha.sum p.bytes],places:=s.places++ [s.b.length],depths:=s.depths++ [Dl p s],total:=s.total+p.bytes.length }
def EF(ps:List Pt)(i:Nat)(s:BS):Except Nat BS:=
 if(ps.getD i AA).base < -1\/(i:Int)<=(ps.getD i AA).base then .error 1
 else if Sha.sum (ps.getD i AA).bytes∈s.ids then .error 11
 else if 50<Dl (ps.getD i AA) s then .error 17
 else .ok (bnext ps (ps.getD i AA) s)
def CW(ps:List Pt):Nat->Except Nat BS
 | 0=> .ok ⟨80 :: Ab3 ps.length,[],[],[],0⟩
 | i+1=>match CW ps i with
  | .error e=> .error e
  | .ok s=>EF ps i s
theorem Fa{ps:List Pt}{e:Nat}:∀ {i:Nat} (_:CW ps i = .error e) (k:Nat),CW ps (i+k) = .error e
 | _,h,0=>h
 | i,h,k+1=>by
  show(match CW ps (i+k)with | .error e=>_ | .ok s=>_)=_;rw[Fa h k]
theorem EM{ps:List Pt}{i:Nat}{s:BS}(h:CW ps i = .ok s):CW ps (i+1)=EF ps i s:=by
 show(match CW ps i with | .error e=>_ | .ok s=>_)=_;rw[h]
def Bo(s:BS)(id:Bs):Option Nat:=(s.ids.zip s.places).lookup id
def Cl(ps:List Pt):Prop:=ps.length<=60/\∀p∈ps,p.bytes.length<=200
structure BOk (i : Nat) (s : BS) : Prop where
 ids:s.ids.length=i
 places:s.places.length=i
 depths:s.depths.length=i
 len:∀id∈s.ids,id.length=32
 b:s.b.length<=10+500*i
 pl:∀p∈s.places,p<=10+500*i
 dp:∀d∈s.depths,d<=50
 total:s.total<=200*i
theorem U8{n:Nat}(h:n<16384):(Ab3 n).length<=2:=by
 by_cases h1:n<128
 ·rw[AeX h1];simp
 ·rw[Lib.uvarint_big (by omega),AeX (by omega)];simp
theorem CP{α β:Type}[BEq α][LawfulBEq α]:∀(l:List α) (m:List β) (x:α),x∉l->(l.zip m).lookup x=none
 | [],_,_,_=>by simp
 | _ :: _,[],_,_=>by simp
 | a :: l,b :: m,x,h=>by
  simp only[Acy,not_or]at h;rw[AdR,Adk,CP l m x h.2];have:(x==a)=false:=by simpa using h.1
  rw[this]
theorem DU{α β:Type}[BEq α][LawfulBEq α]:∀(l:List α) (m:List β) (x:α),l.length=m.length->x∈l->∃y,(l.zip m).lookup x=some y/\y∈m
 | [],_,_,_,h=>by simp at h
 | _ :: _,[],_,h,_=>by simp at h
 | a :: l,b :: m,x,hl,h=>by
  rw[AdR,Adk];by_cases e:x=a
  ·subst e;exact⟨b,by simp,by simp⟩
  ·have:(x==a)=false:=by simpa using e
   rw[this];obtain⟨y,h1,h2⟩:=DU l m x (by simpa using hl) ((Acy.1 h).resolve_left e);exact⟨y,h1,by simp[h2]⟩
theorem Gw{α β:Type}[BEq α][LawfulBEq α][DecidableEq α]:∀(l:List α) (m:List β) (a:α) (b:β),l.length=m.length->a∉l->(fun x=>((l++ [a]).zip (m++ [b])).lookup x)=updM (fun x=>(l.zip m).lookup x) a (some b)
 | [],[],a,b,_,_=>by
  funext x
  unfold updM;simp only[AcO,AdR,List.zip_nil_left,Adk,List.lookup_nil];by_cases e:x=a
  ·simp[e]
  ·have:(x==a)=false:=by simpa using e
   simp[e,this]
 | [],_ :: _,_,_,h,_=>by simp at h
 | _ :: _,[],_,_,h,_=>by simp at h
 | c :: l,d :: m,a,b,hl,h=>by
  simp only[Acy,not_or]at h;have ih:=Gw l m a b (by simpa using hl) h.2
  funext x
  have ihx:=congrFun ih x;unfold updM at ihx ⊢;simp only[AcM,AdR,Adk,ihx];by_cases e:x=a
  ·subst e;have:(x==c)=false:=by simpa using h.1
   simp[this]
  ·simp[e]
theorem Iu{ps:List Pt}{p:Pt}{i:Nat}{s:BS}(h:BOk i s)(hn:Sha.sum p.bytes∉s.ids):Bo (bnext ps p s)=updM (Bo s) (Sha.sum p.bytes) (some s.b.length):=by
 have:=Gw s.ids s.places (Sha.sum p.bytes) s.b.length (by rw[h.ids,h.places]) hn;exact this
theorem BOk.next{ps:List Pt}{i:Nat}{s:BS}(hL:Cl ps)(h:BOk i s)(hi:i<ps.length){s' :BS}(hs:EF ps i s=Except.ok s'):BOk (i+1) s' :=by
 unfold EF at hs;split at hs
 ·cases hs
 ·split at hs
  ·cases hs
  ·split at hs
   ·cases hs
   ·rename_i h1 h2 h3
    cases hs;have hp:=hL.2 _ (AO AA hi);refine⟨by simp[bnext,h.ids],by simp[bnext,h.places],by simp[bnext,h.depths],?_,?_,?_,?_,?_⟩
    ·intro id hid;simp only[bnext,Acb,AbW]at hid;rcases hid with hid | rfl
     ·exact h.len id hid
     ·exact Sha.sum_length _
    ·have hb:=h.b;have hu:=U8 (n:=(ps.getD i AA).bytes.length) (by omega);simp only[bnext];split
     ·simp only[AbP,Ach,Acl,Bn];omega
     ·rename_i hbase
      have a:(ps.getD i AA).base.toNat<s.ids.length:=by rw[h.ids];omega
      have h32:=h.len _ (AO [] a);have hq:=hL.2 _ (AO AA (l:=ps) (i:=(ps.getD i AA).base.toNat) (by rw[h.ids]at a;omega));have hm:=Io (ps.getD (ps.getD i AA).base.toNat AA).bytes (ps.getD i AA).bytes (by omega) (by omega);have c:=U8 (n:=(BV (ps.getD (ps.getD i AA).base.toNat AA).bytes (ps.getD i AA).bytes).length) (by omega);simp only[AbP,Ach,Acl,Bn,h32];omega
    ·intro q hq;have hb:=h.b;simp only[bnext,Acb,AbW]at hq;rcases hq with hq | rfl
     ·have:=h.pl q hq;omega
     ·omega
    ·intro q hq;simp only[bnext,Acb,AbW]at hq;rcases hq with hq | rfl
     ·exact h.dp q hq
     ·omega
    ·have ht:=h.total;simp only[bnext];omega
theorem Iv{ps:List Pt}(hL:Cl ps):∀(i:Nat) (s:BS),i<=ps.length->CW ps i = .ok s->BOk i s
 | 0,s,_,h=>by
  cases h;have:=U8 (n:=ps.length) (by have:=hL.1;omega);exact⟨rfl,rfl,rfl,by simp,by simp only[Ach];omega,by simp,by simp,by simp⟩
 | i+1,s,hi,h=>by
  have h' :(match CW ps i with | .error e=> .error e | .ok s=>EF ps i s)=Except.ok s:=h;cases hb:CW ps i with
  | error e=>rw[hb]at h';cases h'
  | ok s0=>
   rw[hb]at h';exact(Iv hL i s0 (by omega) hb).next hL (by omega) h'
def Cm(s:BS)(at_:Nat):Bs:=(Ba s.ids).flatMap A5++(AJ s.ids).flatMap (fun id=>id++A5 ((Bo s id).getD 0))++A5 at_
def AU(ps:List Pt):Bs × Nat:=
 match CW ps ps.length with
 | .error e=>([],e)
 | .ok s=>(s.b++Cm s s.b.length++Sha.sum (s.b++Cm s s.b.length),0)
theorem Ks(l:List Nat):(l.flatMap A5).length=4*l.length:=by
 induction l with
 | nil=>rfl
 | cons a r ih=>rw[AcJ,AbP,ih,Gu,Ach];omega
theorem Nn(f:Bs->Nat)(l:List Bs)(h:∀x∈l,x.length=32):(l.flatMap fun id=>id++A5 (f id)).length=36*l.length:=by
 induction l with
 | nil=>rfl
 | cons a r ih=>
  rw[AcJ,AbP,AbP,Gu,h a (by simp),ih (fun x hx=>h x (by simp[hx])),Ach];omega
theorem GP{i:Nat}{s:BS}(h:BOk i s)(a:Nat):(Cm s a).length=1028+36*i:=by
 unfold Cm;rw[AbP,AbP,Ks,BR,Nn (fun id=>(Bo s id).getD 0) _ (fun x hx=>h.len x ((sortB_perm _).subset hx)),Gt,h.ids,Gu];omega
theorem Xd:KeyLaw AbL 33:=deep_law_laid (by kernel_rfl) (m:=3) (by decide) (of_decide_eq_true (by kernel_rfl)) (by kernel_rfl) (by kernel_rfl)
theorem Ce:KL AbL 33 (fun v=>∃l,keyOf AbL 33 v=some l):=Aal Xd
theorem Cf:∀id:Ah5,id.length=32->∃l,keyOf AbL 33 (rk id)=some l:=fun _ h=>
 LJ (n:=32) (e:=5) Tryz.underlying33 Afa (by kernel_rfl) (by kernel_rfl) (by kernel_rfl) (of_decide_eq_true (by kernel_rfl)) h
theorem G3:∀u:AbJ,(zeroValue 3).run AbL u = .ok (NI 0) u:=fun _=>by kernel_rfl
theorem F0(w:AbJ)(hG:Laid w)(v:AbI)(l:Bs)(h:RBs w v [l])(hl:l.length<=1099511627776):
  Calls AbL 45 #[v] w fun e w' =>e = .returned (AB (Sha.sum l))/\Ext w w' :=by
 have:=Ph w hG v [l] h (by simp;omega) (by simp)
 simpa using this
theorem No(w:AbJ)(v:AbI)(l:Bs)(hr:RB w v l)(s:Bs)(hl:l.length+s.length+16<=140737488355328):
  Calls AbL 144 #[v,St s] w fun e w' =>∃v',e = .returned v' /\NewB 5 w w' v' (l++Bn s):=by
 have:=Ox w v l hr ⟨s.toArray⟩ (by simpa [ByteArray.size] using hl)
 simpa [Bn,ByteArray.size,Acj] using this
theorem Eo{ps:List Pt}{i e:Nat}(hi:i<ps.length)(h:CW ps (i+1) = .error e):AU ps=([],e):=by
 have:=Fa h (ps.length-(i+1));rw[show i+1+(ps.length-(i+1))=ps.length by omega]at this;unfold AU;rw[this]
theorem RY{ps:List Pt}{s:BS}(h:CW ps ps.length = .ok s):AU ps=(s.b++Cm s s.b.length++Sha.sum (s.b++Cm s s.b.length),0):=by
 unfold AU;rw[h]
theorem Ku{α:Type}(l:List α)(i:Nat)(d:α)(h:i<l.length):l.take (i+1)=l.take i++ [l.getD i d]:=by rw[Acn h,AbN,AbT h];rfl
theorem Kv:(Tryz.prog.info? 156).map (·.size)=some 2:=by kernel_rfl
theorem Fw:Tryz.prog.underlying 154=some (.slice 156):=by kernel_rfl
theorem RZ:Plain AbL 143:=fun _ _=>by kernel_rfl
theorem Kw:∀w' :AbJ,(sizeOf 156).run AbL w' = .ok 2 w' :=fun _=>by kernel_rfl
theorem R2:∃fs,Tryz.prog.underlying 156=some (.struct fs):=Fs (by kernel_rfl)
theorem R3{d:Option Tmp}{ty:AbQ}{pos:String}{af:Array Edge}{gd:Option (Nat × Bool)}(σ:AbV->AbI)(w:AbJ):(execOp σ ⟨d, .alloc 156,ty,pos,af,gd⟩).run AbL w = .ok (.value (PQ w.heap.size 0)) (w.alloc (.cells ([(AbR none 0 0),NI 0]).toArray 156)):=by kernel_rfl
theorem Cc:A4 AbL 156 0 0:=fun b o w=>by simp[go_sem]
theorem BO:A4 AbL 156 1 1:=fun b o w=>by simp[go_sem]
theorem Ga(ao:Option Addr)(n c:Nat)(w:AbJ):(Acq 38 1 #[(0, .slice ao n c)]).run AbL w = .ok (.slice (some ⟨w.heap.size,0,none⟩) 1 1) (w.alloc (.cells #[.slice ao n c] 27)):=by kernel_rfl
theorem JM:Plain AbL 45:=fun _ _=>by kernel_rfl
theorem D9:Tryz.prog.underlying 233=some (.map 33 3):=by kernel_rfl
theorem Np:∀(cs:Array AbI),cs.size=32->∀w:AbJ,(Acq 42 1 #[(0, .agg cs)]).run AbL w = .ok (.slice (some ⟨w.heap.size,0,none⟩) 1 1) (w.alloc (.cells cs 33))
 | ⟨[c0,c1,c2,c3,c4,c5,c6,c7,c8,c9,c10,c11,c12,c13,c14,c15,c16,c17,c18,c19,c20,c21,c22,c23,c24,c25,c26,c27,c28,c29,c30,c31]⟩,_,w=>To c0 c1 c2 c3 c4 c5 c6 c7 c8 c9 c10 c11 c12 c13 c14 c15 c16 c17 c18 c19 c20 c21 c22 c23 c24 c25 c26 c27 c28 c29 c30 c31 w
theorem Pi:Tryz.prog.underlying 9=some (.string):=by kernel_rfl
theorem LT:Plain AbL 144:=fun _ _=>by kernel_rfl
theorem R4:Plain AbL 145:=fun _ _=>by kernel_rfl
theorem R5:Plain AbL 132:=fun _ _=>by kernel_rfl
theorem Iw:Plain AbL 146:=fun _ _=>by kernel_rfl
theorem Tv:Plain AbL 55:=fun _ _=>by kernel_rfl
theorem R6(w:AbJ)(hG:Laid w)(v:AbI)(ps:List Pt)(hr:RG 2 partC w v ps)(hps:Lf w ps)(hL:Cl ps):
  Calls AbL 91 #[v] w fun e w' =>∃v',e = .returned (.tuple #[v',NI (AU ps).2])/\w'.ownsRow w.heap.size 5 1 v' (AU ps).1.length (AbK (AU ps).1)/\Ext w w' :=by
 have hw2:=hG.two;have hL1:=hL.1;refine gG (args:= [v]) Tryz.func91 rfl 165 rfl rfl ?_;have hE:=AaY w;refine gS (X6 Fw (XW hr rfl) (gS (XX RZ rfl ((Rw _ (ps.length) (by omega)).mono ?_))));rintro e w6 ⟨v3,rfl,bf,fj⟩;refine⟨_,rfl,?_⟩;refine gS (YJ rk NI (fun id:Ah5 =>id.length=32) fun n8 w9 i7 b4 c9 i8=> ?_);have hE:=hE.trans fj;have da:=hE.size;have fk:OB v3 n8:=A9 bf (by omega);have i9:n8<w9.heap.size:=by omega
 have hids0:OG w.heap.size 33 32 AbK w9 (AbR none 0 0) ([]:List Bs):=Abg _ _ _ _ _;have fl:AbS (AbR none 0 0)≠some n8:=fun h=>by cases h
 have fm:Ae (AbR none 0 0) v3:=fun k h=>by cases h
 have fn:Ae v3 (AbR none 0 0):=fun k _ h=>by cases h
 have hE:=hE.trans c9;refine gS (X6 Fw (XW (hr.keep hE) rfl) (gS (AaC 8 LL Xc rfl rfl (by omega) (by omega) fun ab fo fp db ch ja=> ?_)));have dc:=hE.size;have jb:=As b4.lt fp;have bf:=Aa5 _ _ _ _ _ _ _ _ bf c9;have fq:OB v3 ab:=A9 bf (by omega);have fr:AbS (AbR none 0 0)≠some ab:=A9 hids0.2 (by omega);have dd:=db;clear db;have jc:ab<fo.heap.size:=by omega
 have hE:=hE.trans ch;have bf:=Aa5 _ _ _ _ _ _ _ _ bf ch;have b4:=b4.keep ch;have hids0:=hids0.keep ch;refine gS (X6 Fw (XW (hr.keep hE) rfl) (gL (fun(ρ:Ac) (wz:AbJ)=>∃i:Nat,∃s:BS,∃vb:AbI,∃vi:AbI,ρ 0=(v:AbI)/\ρ 5=(.map (some n8):AbI)/\ρ 7=(.slice (some ⟨ab,0,none⟩) ps.length ps.length:AbI)/\ρ 28=(v:AbI)/\ρ 29=(NI ps.length:AbI)/\ρ 30=(NI i:AbI)/\ρ 8=(NI s.total:AbI)/\ρ 4=(vb:AbI)/\ρ 6=(vi:AbI)/\Ext w wz/\wz.ownsRow w.heap.size 5 1 vb (s.b:Ah5).length (AbK (s.b))/\OG w.heap.size 33 32 (AbK) wz vi (s.ids)/\MapF rk NI (fun id:Ah5 =>id.length=32) wz n8 (Bo s)/\wz.heap[ab]? =some (.cells ((s.depths++AbX (ps.length-i) 0).map fun x=>NI x).toArray 3 (0,0))/\(CW ps i = .ok s)/\(i<=ps.length)/\(OB vb n8)/\(Ae vb vi)/\(OB vb ab)/\(OB vi n8)/\(Ae vi vb)/\(OB vi ab)/\True) (fun ρ _=>ps.length-(intOf (ρ 30)).toNat) ⟨0,⟨80 :: Ab3 ps.length,[],[],[],0⟩,v3,(AbR none 0 0),rfl,rfl,rfl,rfl,rfl,rfl,rfl,rfl,rfl,hE,Dj bf (rfl),Bc hids0 (rfl),B5 b4 (rfl),AW dd (rfl),rfl,Ack _,fk,fn,fq,fl,fm,fr,trivial⟩ ?_));clear bf;clear b4;clear hids0;clear dd;clear hE;rintro de df ⟨i,s,vb,vi,T0,T5,T7,aq,ar,ad,T8,T4,T6,hE,hr_vb,hr_vi,hb11l,hb38l,hs,hi,hap_vb_n8,hap_vb_vi,hap_vb_n24,hap_vi_n8,hap_vi_vb,hap_vi_n24,-⟩;have q30:=ad;have hB:=Iv hL i s hi hs;have hBi:=hB.ids;have hBp:=hB.places;have hBd:=hB.depths;have hBb:=hB.b;have hBt:=hB.total;obtain⟨dl,hdl⟩:∃dl,dl=s.depths++AbX (ps.length-i) 0:=⟨_,rfl⟩;have hb38l:df.heap[ab]? =some (.cells (dl.map fun x=>NI x).toArray 3 (0,0)):=AW hb38l (by rw[hdl]);have hdll:dl.length=ps.length:=by rw[hdl,AbP,Ab8];omega
 have hdg:∀m,m<i->dl.getD m 0=s.depths.getD m 0:=fun m hm=>by rw[hdl,AbN,AcG (by omega),<-AbN]
 refine gS (XQ (a:=(i:Nat)) (b:=(ps.length:Nat)) ad ar (AK _ _ _ _) ?_);refine cD rfl (fun ct=> ?_) fun ct=> ?_
 ·have hil:i<ps.length:=ct;obtain⟨p,hp⟩:∃p,p=ps.getD i AA:=⟨_,rfl⟩;have hpm:p∈ps:=by rw[hp];exact AO AA hil
  have hpl:=hL.2 p hpm;have hpb:=(hps p hpm).2;have hpr:=(hps p hpm).1;have hst:=EM hs;unfold EF at hst;rw[<-hp]at hst;have fs:(partC (ps.getD (i) AA)).length=2:=(Aa6 (hr.keep hE) AA (by omega));refine gS (X9 Fw Kw (by decide) AA (XW (hr.keep hE) aq) ad (by omega) fun jd dh=>(gS (Yg (Yc dh rfl) (R2).choose_spec rfl (by rw[fs];exact Kv) (gS (Aa3 R3 fun am ft di dj b5 je=> ?_)))));have o:=AaY df;have jf:=hE.size;have jg:=As hb11l.lt di;have jh:=As (bl hb38l) di;have ci:OB vb am:=A9 hr_vb (by omega);have dk:OB vi am:=A9 hr_vi.2 (by omega);have f:=dj;clear dj;have ji:am<ft.heap.size:=by omega
  refine gS (XT (vr (PQ am 0) rfl) (vr (.agg (partC (ps.getD (i) AA)).toArray) rfl) f (by rfl) (by exact Kv) ((partC_one (Aa8 (hps _ (AO AA ct)).1))) fun dm dn b6 jj=> ?_);have hb11l:=hb11l.keep b5;have hb11l:=Aa2 hb11l b6 (Am (by omega));clear f;have f:=dn;clear dn;have jk:=bl f;clear dh;have f:dm.heap[am]? =some (.cells ([p.v, .int .i64 (p.base:Int)]).toArray 156 (0,0)):=AW f (show partC (ps.getD i AA)= [p.v, .int .i64 (p.base:Int)] by rw[<-hp];rfl);by_cases hA:p.base < -1
  ·have o:=o.trans b5;have o:=Ab o b6 (AbM (AbO _) (by omega));have hE:=hE.trans o;refine gS (Aa0 Cc rfl (gS (XP F7 rfl rfl (cellAt f rfl) (gS (XZ F7 (XV (hpr.keep hE) rfl) (gS (XQ (a:=((p.bytes:Ah5).length:Nat)) (b:=(262144:Nat)) rfl rfl (Bh _ _ _ _) ?_)))))));refine cD rfl (fun az=> ?_) fun az=> ?_
   ·exact absurd az (by omega)
   refine gS (Aa0 BO rfl (gS (XP Tk rfl rfl (cellAt f rfl) (gS (XQ rfl rfl (Fk _ .i64 (p.base:Int) (-1:Int)) (kT (by omega) (gS (XY rfl rfl (cT rfl (BA rfl (vr (AbR none 0 0) rfl) (vr (NI 1) rfl) ?_))))))))));rw[if_pos (by omega)]at hst;rw[Eo (by omega) hst];exact⟨_,rfl,AcH _ _ _ 1,hE⟩
  by_cases hBq:(i:Int)<=p.base
  ·have o:=o.trans b5;have o:=Ab o b6 (AbM (AbO _) (by omega));have hE:=hE.trans o;refine gS (Aa0 Cc rfl (gS (XP F7 rfl rfl (cellAt f rfl) (gS (XZ F7 (XV (hpr.keep hE) rfl) (gS (XQ (a:=((p.bytes:Ah5).length:Nat)) (b:=(262144:Nat)) rfl rfl (Bh _ _ _ _) ?_)))))));refine cD rfl (fun az=> ?_) fun az=> ?_
   ·exact absurd az (by omega)
   refine gS (Aa0 BO rfl (gS (XP Tk rfl rfl (cellAt f rfl) (gS (XQ rfl rfl (Fk _ .i64 (p.base:Int) (-1:Int)) (kF (by omega) (gS (Aa0 BO rfl (gS (XP Tk rfl rfl (cellAt f rfl) (gS (XQ rfl ad (Kc _ .i64 (p.base:Int) ((i:Nat):Int)) (kT (by omega) (gS (X2 rfl rfl (cT rfl (BA rfl (vr (AbR none 0 0) rfl) (vr (NI 1) rfl) ?_)))))))))))))))));rw[if_pos (by omega)]at hst;rw[Eo (by omega) hst];exact⟨_,rfl,AcH _ _ _ 1,hE⟩
  by_cases hC0:p.base<0
  ·have o:=o.trans b5;have o:=Ab o b6 (AbM (AbO _) (by omega));have hE:=hE.trans o;refine gS (Aa0 Cc rfl (gS (XP F7 rfl rfl (cellAt f rfl) (gS (XZ F7 (XV (hpr.keep hE) rfl) (gS (XQ (a:=((p.bytes:Ah5).length:Nat)) (b:=(262144:Nat)) rfl rfl (Bh _ _ _ _) ?_)))))));refine cD rfl (fun az=> ?_) fun az=> ?_
   ·exact absurd az (by omega)
   refine gS (Aa0 BO rfl (gS (XP Tk rfl rfl (cellAt f rfl) (gS (XQ rfl rfl (Fk _ .i64 (p.base:Int) (-1:Int)) (kF (by omega) (gS (Aa0 BO rfl (gS (XP Tk rfl rfl (cellAt f rfl) (gS (XQ rfl ad (Kc _ .i64 (p.base:Int) ((i:Nat):Int)) (kF (by omega) (gS (X2 rfl rfl (cF rfl (gS (Aa0 Cc rfl (gS (XP F7 rfl rfl (cellAt f rfl) (gS (YA Ga (XV (hpr.keep hE) (vr p.v rfl)) fun fu jl fv dq=> ?_))))))))))))))))))))));have hE:=hE.trans dq;refine gS (XX JM rfl ((F0 _ (hG.keep hE) fu (p.bytes) fv (by omega)).mono ?_));rintro e jm ⟨rfl,dr⟩;refine⟨_,rfl,?_⟩;refine gS (Aa3 Tn fun b7 fw cu ds bg jn=> ?_);have hE:=hE.trans dr;have hZ1:=dq.trans dr;have o:=o.trans hZ1;have cv:=hE.size;have hb11l:=hb11l.keep hZ1;have jo:=As hb11l.lt cu;have jp:=o.size;have hb38l:=eb o hb38l;have jq:=As (bl hb38l) cu;have f:=eb hZ1 f;have jr:=As (bl f) cu;have hr_vb:=Aa5 _ _ _ _ _ _ _ _ hr_vb o;have dt:OB vb b7:=A9 hr_vb (by omega);have hr_vi:=hr_vi.keep o;have du:OB vi b7:=A9 hr_vi.2 (by omega);have an:=ds;clear ds;have js:b7<fw.heap.size:=by omega
   refine gS (XT (vr (PQ b7 0) rfl) (vr (AB (Sha.sum (p.bytes))) rfl) an (by exact BC (Sha.sum_length _) Ab8) (by exact Ad (Sha.sum_length _)) (Ag _) fun fx dv bh jt=> ?_);have hb11l:=hb11l.keep bg;have hb11l:=Aa2 hb11l bh (Am (by omega));clear an;have an:=dv;clear dv;have ju:=bl an;rw[if_neg (by omega)]at hst;by_cases hin:Sha.sum p.bytes∈s.ids
   ·rw[if_pos hin]at hst;obtain⟨q,hq,-⟩:=DU s.ids s.places (Sha.sum p.bytes) (by omega) hin;refine gS (XU rfl an U7 rfl (by exact Ad (Sha.sum_length _)) (gS (Yw (ek:=rk) (ev:=NI) (D:=(fun id:Ah5 =>id.length=32)) Ce Cf (fun _ _=>B9) D9 (z:=NI 0) G3 T5 rfl hb11l (Sha.sum_length _) (show Bo s _=some q from hq) (gS (AaZ (vs:= [NI q, .bool (true)]) rfl rfl (gS (AaZ (vs:= [NI q, .bool (true)]) rfl rfl (cT rfl (BA rfl (vr (AbR none 0 0) rfl) (vr (NI 11) rfl) ?_)))))))));rw[Eo (by omega) hst];have hE:=hE.trans bg;have hE:=Ab hE bh (AbM cv (by omega));exact⟨_,rfl,AcH _ _ _ 1,hE⟩
   rw[if_neg hin]at hst;have hq:=CP s.ids s.places (Sha.sum p.bytes) hin;have f:=eb bg f;have f:=kb bh f (by omega);refine gS (XU rfl an U7 rfl (by exact Ad (Sha.sum_length _)) (gS (YC (ek:=rk) (ev:=NI) (D:=(fun id:Ah5 =>id.length=32)) Ce Cf (fun _ _=>B9) D9 (z:=NI 0) G3 T5 rfl hb11l (Sha.sum_length _) (show Bo s _=none from hq) (gS (AaZ (vs:= [NI 0, .bool (false)]) rfl rfl (gS (AaZ (vs:= [NI 0, .bool (false)]) rfl rfl (cF rfl (gS (Aa0 BO rfl (gS (XP Tk rfl rfl (cellAt f rfl) (gS (XQ rfl rfl (Kc _ .i64 (p.base:Int) ((0:Nat):Int)) (kF (by omega) ?_)))))))))))))));obtain⟨d2,hd2⟩:∃d2,d2=s.depths++Dl p s :: AbX (ps.length-i-1) 0:=⟨_,rfl⟩;have hb38l:=eb bg hb38l;have hb38l:=kb bh hb38l (by omega);have hb38l:fx.heap[ab]? =some (.cells (d2.map fun x=>NI x).toArray 3 (0,0)):=AW hb38l (congrArg (Aeq fun x=>NI x) (by rw[hd2,hdl,show ps.length-i=(ps.length-i-1)+1 by omega];unfold Dl;rw[if_pos hC0];rfl));have hdv:d2.getD i 0=Dl p s:=by rw[hd2,AbN,AcA (by omega),hBd,Ady];simp
   have hd2l:d2.length=ps.length:=by rw[hd2,AbP,Ach,Ab8];omega
   refine cF rfl (gS (Y0 (i:=i) LL G2 T7 ad (by omega) (gS (XP Tk rfl rfl (cellAt hb38l (F9 (i:=i) (by omega))) (gS (XQ (a:=((d2).getD (i) 0:Nat)) (b:=(50:Nat)) rfl rfl (Bh _ _ _ _) ?_))))));refine cD rfl (fun a0=> ?_) fun a0=> ?_
   ·refine BA rfl (vr (AbR none 0 0) rfl) (vr (NI 17) rfl) ?_;rw[hdv]at a0;rw[if_pos a0]at hst;rw[Eo (by omega) hst];have hE:=hE.trans bg;have hE:=Ab hE bh (AbM cv (by omega));exact⟨_,rfl,AcH _ _ _ 1,hE⟩
   rw[hdv]at a0;rw[if_neg a0]at hst;have hst3:=hst;have hr_vb:=Aa5 _ _ _ _ _ _ _ _ hr_vb bg;have hr_vb:=BK hr_vb bh dt;refine gS (XU rfl an U7 rfl (by exact Ad (Sha.sum_length _)) (gS (XZ F7 (XV (Ya hr_vb) T4) (gS (YG (ek:=rk) (ev:=NI) (D:=(fun id:Ah5 =>id.length=32)) (c:=(s.b:Ah5).length) Ce Cf D9 T5 (vr (AB (Sha.sum (p.bytes))) rfl) (vr (NI ((s.b:Ah5).length)) rfl) hb11l (Sha.sum_length _) fun fy a4 bw jv=> ?_)))));clear hb11l;have jw:n8<fy.heap.size:=a4.lt;have an:=kb bw an (by omega);refine gS (XU rfl an U7 rfl (by exact Ad (Sha.sum_length _)) (gS (Yu (a:=(Sha.sum (p.bytes))) (enc:=AbK) (vr (AB (Sha.sum (p.bytes))) rfl) (by rw[AbZ];exact(Sha.sum_length _)) Np fun fz f0 dw bo=> ?_)));have hE:=hE.trans bg;have hE:=Ab hE bh (AbM cv (by omega));have hE:=Ab hE bw (AbM da (by omega));have hE:=hE.trans bo;have hr_vi:=hr_vi.keep bg;have hr_vi:=Abc hr_vi bh du;have hr_vi:=Abc hr_vi bw hap_vi_n8;have hr_vi:=hr_vi.keep bo;refine gS (X7 _ _ w.heap.size _ 32 Nd pk6_ig33.choose_spec.1 pk6_ig33.choose_spec.2 Nd (s.ids) ([(Sha.sum (p.bytes))]) (Abf hr_vi T6) (XW dw (vr fz rfl)) (fun _ _=>Ag _) (by simp only[Ach,Acl];omega) (by simp only[Ach,Acl];omega) hE.size fun a8 u cj a1=> ?_);have a1:Grew f0 u vi a8:= .eqv T6 a1;have a4:=a4.keep bo;have f1:OB a8 n8:=Ap a1 hap_vi_n8 a4.lt;have hr_vb:=BK hr_vb bw hap_vb_n8;have hr_vb:=Aa5 _ _ _ _ _ _ _ _ hr_vb bo;have f2:Ae a8 vb:=Az a1 hap_vi_vb hr_vb;have dx:Ae vb a8:=fun k h1 h2=>f2 k h2 h1;have hb38l:=kb bw hb38l (by omega);have hb38l:=eb bo hb38l;have f3:OB a8 ab:=Ap a1 hap_vi_n24 (bl hb38l);have f:=kb bw f (by omega);have f:=eb bo f;have an:=eb bo an;have hE:=Ao hE a1 hr_vi.2 (AbO _);have hr_vb:=Dr hr_vb a1 hap_vi_vb;have hb38l:=Ar hb38l a1 hap_vi_n24;have f:=Ar f a1 dk;have an:=Ar an a1 du;have a4:=Aba a4 a1 hap_vi_n8;clear dw;clear hr_vi;refine gS (Aa0 Cc rfl (gS (XP F7 rfl rfl (cellAt f rfl) (gS (XZ F7 (XV (hpr.keep hE) rfl) (gS (XR (xv:=NI s.total) (yv:=NI ((p.bytes:Ah5).length)) T8 rfl rfl (Ah _ _ _ (by omega)) (gS (Aa0 BO rfl (gS (XP Tk rfl rfl (cellAt f rfl) (gS (XQ rfl rfl (Fk _ .i64 (p.base:Int) ((0:Nat):Int)) (kT (by omega) (cT rfl (gR ?_))))))))))))))));have f4:∀k,AbS vb=some k->w.heap.size<=k:=fun k hk=>(hr_vb.lt k hk).1;have hsz_:w.heap.size<=u.heap.size:=hE.size;refine Em (AbS vb) [2] [0] (fun m=>if m=2 then [0,1]else []) (fun m=>if m=2 then [0,1,2,6,7]else []) [fun x w' =>EW w.heap.size u.heap.size 5 (AbS vb) (s.b) x w',fun x w' =>RB w' x (([0]:Ah5)),fun x w' =>EW w.heap.size u.heap.size 5 (AbS vb) ((s.b:Ah5)++(([0]:Ah5):Ah5)) x w',Is (PQ am 0),Is (p.v),Is (St (p.bytes)),fun x w' =>EW w.heap.size u.heap.size 5 (AbS vb) (((s.b:Ah5)++(([0]:Ah5):Ah5):Ah5)++Bn (p.bytes:Ah5)) x w',fun x w' =>EW w.heap.size u.heap.size 5 (AbS vb) (((s.b:Ah5)++(([0]:Ah5):Ah5):Ah5)++Bn (p.bytes:Ah5)) x w'] (by kernel_rfl) [92,93,94,95,96,97,98,4] (by kernel_rfl) (by kernel_rfl) (by kernel_rfl) (by kernel_rfl) (by kernel_rfl) rfl ⟨(fun _ _ _ h k=>⟨Aa5 _ _ _ _ _ _ _ _ h.1 k,h.2⟩),(fun _ _ _ h k=>Abx h k),(fun _ _ _ h k=>⟨Aa5 _ _ _ _ _ _ _ _ h.1 k,h.2⟩),X0 _,X0 _,X0 _,(fun _ _ _ h k=>⟨Aa5 _ _ _ _ _ _ _ _ h.1 k,h.2⟩),(fun _ _ _ h k=>⟨Aa5 _ _ _ _ _ _ _ _ h.1 k,h.2⟩),trivial⟩ ⟨⟨.inl rfl, .inl rfl, .inl rfl, .inr (X0 _), .inr (X0 _), .inr (X0 _), .inl rfl, .inl rfl,trivial⟩,trivial⟩ ?f5 ?hQ4025
   case f5=>
    refine⟨?_,?_,?_,?_,?_,?_,?_,?_,trivial⟩
    ·refine Aj rfl fun σ w1 hC h=> ?_;have hX:Ext u w1:=hC;have hC:BX u.heap.size (AbS vb) u w1:=Yq hX (AbO _);have e4:=(AH (h 4 (by decide))).trans T4;exact Aa7 e4 ⟨AaY _,Aa5 _ _ _ _ _ _ _ _ hr_vb hX,fun k hk=> .inl hk⟩
    ·refine Aj rfl fun σ w1 hC h=> ?_;have hC:BX u.heap.size (AbS vb) u w1:=hC;exact ZV (e:=5) ([0]:Ah5) (by decide) (fun _ _=>by kernel_rfl) fun v w2 hN=>⟨hN.ext,hN.rb⟩
    ·refine Aj rfl fun σ w1 hC h=> ?_;have hC:BX u.heap.size (AbS vb) u w1:=hC;have cx:(fun x w' =>EW w.heap.size u.heap.size 5 (AbS vb) (s.b) x w') (σ 92) w1:=h 92 (by decide);have f6:(fun x w' =>RB w' x (([0]:Ah5))) (σ 93) w1:=h 93 (by decide);exact Yh _ _ w.heap.size (.int .u8 0) F7 MM rfl F7 (s.b) (([0]:Ah5)) cx.1 f6 (by simp only[Ach,Acl];omega) (AbM hsz_ hC.size) fun v w2 ho hg=>⟨Yr hg.by_ hC.size cx.2,ho,fun k hk=>(hg.fresh k hk).elim (cx.2 k) (fun x=> .inr (AbM hC.size x))⟩
    ·refine Aj rfl fun σ w1 hC h=> ?_;have hC:BX u.heap.size (AbS vb) u w1:=hC;have b8:σ 10=PQ am 0:=(AH (h 10 (by decide))).trans rfl;exact Aa0 Cc b8 ⟨AaY _,rfl⟩
    ·refine Aj rfl fun σ w1 hC h=> ?_;have hC:BX u.heap.size (AbS vb) u w1:=hC;have f7:=AH (h 95 (by decide));exact XP F7 rfl f7 (cellAt (BX.blk hC f ci) (show _=some (p.v:AbI)from rfl)) ⟨AaY _,rfl⟩
    ·refine Aj rfl fun σ w1 hC h=> ?_;have hC:BX u.heap.size (AbS vb) u w1:=hC;have f8:=AH (h 96 (by decide));exact Yo F7 u5 Pi (XV (hpr.keep (Dz hE hC (by omega) (fun k hk=>by have:=f4 k hk;omega))) f8) ⟨AaY _,rfl⟩
    ·refine Aj rfl fun σ w1 hC h=> ?_;have hC:BX u.heap.size (AbS vb) u w1:=hC;have f9:(fun x w' =>EW w.heap.size u.heap.size 5 (AbS vb) ((s.b:Ah5)++(([0]:Ah5):Ah5)) x w') (σ 94) w1:=h 94 (by decide);have ga:=AH (h 97 (by decide));refine XS LT rfl ga ((No _ (σ 94) ((s.b:Ah5)++(([0]:Ah5):Ah5)) (Ya f9.1) (p.bytes) (by simp only[AbP,Ach,Acl];omega)).mono ?_);rintro e w2 ⟨v,rfl,hN⟩;exact⟨_,rfl,hN.ext,BJ hN.own (AbM hsz_ hC.size),fun k hk=> .inr (AbM hC.size (hN.own.lt k hk).1)⟩
    ·refine Aj rfl fun σ w1 hC h=> ?_;have hC:BX u.heap.size (AbS vb) u w1:=hC;have gb:(fun x w' =>EW w.heap.size u.heap.size 5 (AbS vb) (((s.b:Ah5)++(([0]:Ah5):Ah5):Ah5)++Bn (p.bytes:Ah5)) x w') (σ 98) w1:=h 98 (by decide);exact Abb rfl ⟨AaY _,gb⟩
   intro dy dz gc he hf;obtain⟨-,-,-,-,-,-,-,k4,-⟩:=hf;obtain⟨T0,T5,T6,T7,T8,T9,ge,gf,gg,aq,ar,ad,gh,gi,gj,gk,-⟩:=he.hold [(0,_),(5,_),(6,a8),(7,_),(8,NI ((s.total)+((p.bytes:Ah5).length))),(9,_),(10,PQ am 0),(11,PQ b7 0),(13, .bool (false)),(28,_),(29,_),(30,_),(47, .bool (false)),(58, .bool (false)),(61, .bool (false)),(91, .bool (true))] ⟨T0,T5,rfl,T7,rfl,ad,rfl,rfl,rfl,aq,ar,ad,rfl,rfl,rfl,rfl,trivial⟩ rfl;clear he;have k4:(fun x w' =>EW w.heap.size u.heap.size 5 (AbS vb) (((s.b:Ah5)++(([0]:Ah5):Ah5):Ah5)++Bn (p.bytes:Ah5)) x w') (dy 4) dz:=k4;obtain⟨bx,T4⟩:∃v,dy 4=v:=⟨_,rfl⟩;rw[T4]at k4;have a9:Grew u dz vb bx:=⟨gc.grown,k4.2⟩;have gl:=k4.1;clear k4;have gm:OB bx n8:=Ap a9 hap_vb_n8 a4.lt;have gn:OB bx ab:=Ap a9 hap_vb_n24 (bl hb38l);have d0:Ae bx a8:=Az a9 dx cj.2;have go:Ae a8 bx:=fun k h1 h2=>d0 k h2 h1;have hE:=Ao hE a9 hr_vb (AbO _);have hb38l:=Ar hb38l a9 hap_vb_n24;have f:=Ar f a9 ci;have an:=Ar an a9 dt;have a4:=Aba a4 a9 hap_vb_n8;have cj:=AZ cj a9 dx;clear hr_vb;refine gX ?_;have hbn:(bnext ps p s).b=s.b++ [0]++Bn p.bytes:=by unfold bnext;simp only;rw[if_pos hC0]
   refine gS (XR (xv:=NI i) (yv:=NI 1) ad rfl rfl (Ah _ _ _ (by omega)) ?_);have hdep:d2=(bnext ps p s).depths++AbX (ps.length-(i+1)) 0:=by rw[hd2];simp only[bnext,Acj,Ae0,Nat.sub_sub]
   refine gK (Acr ⟨i+1,bnext ps p s,bx,a8,T0,T5,T7,aq,ar,rfl,T8,T4,T6,hE,Dj gl (by rw[hbn]),Bc cj (rfl),B5 a4 ((Iu hB hin).symm),AW hb38l (congrArg (Aeq fun x=>NI x) hdep),hst3,by omega,gm,d0,gn,f1,go,f3,trivial⟩ ?_);show ps.length-(intOf (NI ((i)+(1)))).toNat<ps.length-(intOf (de 30)).toNat;rw[q30];simp only[intOf,Ab0];omega
  have o:=o.trans b5;have o:=Ab o b6 (AbM (AbO _) (by omega));have hE:=hE.trans o;obtain⟨m,hm⟩:∃m:Nat,p.base=(m:Int):=⟨p.base.toNat,by omega⟩;have hmi:m<i:=by omega
  have f:dm.heap[am]? =some (.cells ([p.v,NI m]).toArray 156 (0,0)):=AW f (by rw[hm]);refine gS (Aa0 Cc rfl (gS (XP F7 rfl rfl (cellAt f rfl) (gS (XZ F7 (XV (hpr.keep hE) rfl) (gS (XQ (a:=((p.bytes:Ah5).length:Nat)) (b:=(262144:Nat)) rfl rfl (Bh _ _ _ _) ?_)))))));refine cD rfl (fun az=> ?_) fun az=> ?_
  ·exact absurd az (by omega)
  refine gS (Aa0 BO rfl (gS (XP Tk rfl rfl (cellAt f rfl) (gS (XQ rfl rfl (Fk _ .i64 ((m:Nat):Int) (-1:Int)) (kF (by omega) (gS (Aa0 BO rfl (gS (XP Tk rfl rfl (cellAt f rfl) (gS (XQ (a:=(m:Nat)) (b:=(i:Nat)) rfl ad (Ek _ _ _ _) (kF (by omega) (gS (X2 rfl rfl (cF rfl (gS (Aa0 Cc rfl (gS (XP F7 rfl rfl (cellAt f rfl) (gS (YA Ga (XV (hpr.keep hE) (vr p.v rfl)) fun gp jx gq d1=> ?_))))))))))))))))))))));have hE:=hE.trans d1;refine gS (XX JM rfl ((F0 _ (hG.keep hE) gp (p.bytes) gq (by omega)).mono ?_));rintro e jy ⟨rfl,d3⟩;refine⟨_,rfl,?_⟩;refine gS (Aa3 Tn fun bp gr cy d4 bi jz=> ?_);have hE:=hE.trans d3;have hZ2:=d1.trans d3;have o:=o.trans hZ2;have cz:=hE.size;have hb11l:=hb11l.keep hZ2;have j0:=As hb11l.lt cy;have j1:=o.size;have hb38l:=eb o hb38l;have j2:=As (bl hb38l) cy;have f:=eb hZ2 f;have j3:=As (bl f) cy;have hr_vb:=Aa5 _ _ _ _ _ _ _ _ hr_vb o;have c0:OB vb bp:=A9 hr_vb (by omega);have hr_vi:=hr_vi.keep o;have d5:OB vi bp:=A9 hr_vi.2 (by omega);have t:=d4;clear d4;have j4:bp<gr.heap.size:=by omega
  refine gS (XT (vr (PQ bp 0) rfl) (vr (AB (Sha.sum (p.bytes))) rfl) t (by exact BC (Sha.sum_length _) Ab8) (by exact Ad (Sha.sum_length _)) (Ag _) fun j5 d6 bj j6=> ?_);have hb11l:=hb11l.keep bi;have hb11l:=Aa2 hb11l bj (Am (by omega));clear t;have t:=d6;clear d6;have j7:=bl t;rw[if_neg (by omega)]at hst;by_cases hin:Sha.sum p.bytes∈s.ids
  ·rw[if_pos hin]at hst;obtain⟨q,hq,-⟩:=DU s.ids s.places (Sha.sum p.bytes) (by omega) hin;refine gS (XU rfl t U7 rfl (by exact Ad (Sha.sum_length _)) (gS (Yw (ek:=rk) (ev:=NI) (D:=(fun id:Ah5 =>id.length=32)) Ce Cf (fun _ _=>B9) D9 (z:=NI 0) G3 T5 rfl hb11l (Sha.sum_length _) (show Bo s _=some q from hq) (gS (AaZ (vs:= [NI q, .bool (true)]) rfl rfl (gS (AaZ (vs:= [NI q, .bool (true)]) rfl rfl (cT rfl (BA rfl (vr (AbR none 0 0) rfl) (vr (NI 11) rfl) ?_)))))))));rw[Eo (by omega) hst];have hE:=hE.trans bi;have hE:=Ab hE bj (AbM cz (by omega));exact⟨_,rfl,AcH _ _ _ 1,hE⟩
  rw[if_neg hin]at hst;have hq:=CP s.ids s.places (Sha.sum p.bytes) hin;have hb38l:=eb bi hb38l;have hb38l:=kb bj hb38l (by omega);have f:=eb bi f;have f:=kb bj f (by omega);refine gS (XU rfl t U7 rfl (by exact Ad (Sha.sum_length _)) (gS (YC (ek:=rk) (ev:=NI) (D:=(fun id:Ah5 =>id.length=32)) Ce Cf (fun _ _=>B9) D9 (z:=NI 0) G3 T5 rfl hb11l (Sha.sum_length _) (show Bo s _=none from hq) (gS (AaZ (vs:= [NI 0, .bool (false)]) rfl rfl (gS (AaZ (vs:= [NI 0, .bool (false)]) rfl rfl (cF rfl (gS (Aa0 BO rfl (gS (XP Tk rfl rfl (cellAt f rfl) (gS (XQ (a:=(m:Nat)) (b:=(0:Nat)) rfl rfl (Ek _ _ _ _) (kT (Ack _) (cT rfl (gS (Aa0 BO rfl (gS (XP Tk rfl rfl (cellAt f rfl) (gS (Y0 (i:=m) LL G2 T7 rfl (by omega) (gS (XP Tk rfl rfl (cellAt hb38l (F9 (i:=m) (by omega))) (gS (XR (xv:=NI ((dl).getD (m) 0)) (yv:=NI 1) rfl rfl rfl (Ah _ _ _ (by have:=hB.dp _ (AO 0 (l:=s.depths) (i:=m) (by omega));rw[hdg m hmi];omega)) (gS (Y0 (i:=i) LL G2 T7 ad (by omega) (gS (Zc (i:=i) (v:=((dl).getD (m) 0)+(1)) rfl rfl hb38l (by omega) Nf fun gs d7 bq j8=> ?_))))))))))))))))))))))))))))));have hb11l:=Aa2 hb11l bq (Am (by omega));clear hb38l;have hb38l:=d7;clear d7;have j9:=bl hb38l;obtain⟨d2,hd2⟩:∃d2,d2=s.depths++Dl p s :: AbX (ps.length-i-1) 0:=⟨_,rfl⟩;have hb38l:gs.heap[ab]? =some (.cells (d2.map fun x=>NI x).toArray 3 (0,0)):=AW hb38l (congrArg (Aeq fun x=>NI x) (by rw[hd2,hdg m hmi,hdl,List.set_append_right _ _ (by omega),hBd,Ady,show ps.length-i=(ps.length-i-1)+1 by omega];unfold Dl;rw[if_neg hC0,hm,Ab0];rfl));have hdv:d2.getD i 0=Dl p s:=by rw[hd2,AbN,AcA (by omega),hBd,Ady];simp
  have hd2l:d2.length=ps.length:=by rw[hd2,AbP,Ach,Ab8];omega
  refine gS (Y0 (i:=i) LL G2 T7 ad (by omega) (gS (XP Tk rfl rfl (cellAt hb38l (F9 (i:=i) (by omega))) (gS (XQ (a:=((d2).getD (i) 0:Nat)) (b:=(50:Nat)) rfl rfl (Bh _ _ _ _) ?_)))));refine cD rfl (fun a0=> ?_) fun a0=> ?_
  ·refine BA rfl (vr (AbR none 0 0) rfl) (vr (NI 17) rfl) ?_;rw[hdv]at a0;rw[if_pos a0]at hst;rw[Eo (by omega) hst];have hE:=hE.trans bi;have hE:=Ab hE bj (AbM cz (by omega));have hE:=Ab hE bq (AbM dc (by omega));exact⟨_,rfl,AcH _ _ _ 1,hE⟩
  rw[hdv]at a0;rw[if_neg a0]at hst;have hst3:=hst;have hr_vb:=Aa5 _ _ _ _ _ _ _ _ hr_vb bi;have hr_vb:=BK hr_vb bj c0;have hr_vb:=BK hr_vb bq hap_vb_n24;have t:=kb bq t (by omega);refine gS (XU rfl t U7 rfl (by exact Ad (Sha.sum_length _)) (gS (XZ F7 (XV (Ya hr_vb) T4) (gS (YG (ek:=rk) (ev:=NI) (D:=(fun id:Ah5 =>id.length=32)) (c:=(s.b:Ah5).length) Ce Cf D9 T5 (vr (AB (Sha.sum (p.bytes))) rfl) (vr (NI ((s.b:Ah5).length)) rfl) hb11l (Sha.sum_length _) fun gt ac bz ka=> ?_)))));clear hb11l;have kc:n8<gt.heap.size:=ac.lt;have t:=kb bz t (by omega);refine gS (XU rfl t U7 rfl (by exact Ad (Sha.sum_length _)) (gS (Yu (a:=(Sha.sum (p.bytes))) (enc:=AbK) (vr (AB (Sha.sum (p.bytes))) rfl) (by rw[AbZ];exact(Sha.sum_length _)) Np fun gu gv d8 br=> ?_)));have hE:=hE.trans bi;have hE:=Ab hE bj (AbM cz (by omega));have hE:=Ab hE bq (AbM dc (by omega));have hE:=Ab hE bz (AbM da (by omega));have hE:=hE.trans br;have hr_vi:=hr_vi.keep bi;have hr_vi:=Abc hr_vi bj d5;have hr_vi:=Abc hr_vi bq hap_vi_n24;have hr_vi:=Abc hr_vi bz hap_vi_n8;have hr_vi:=hr_vi.keep br;refine gS (X7 _ _ w.heap.size _ 32 Nd pk6_ig33.choose_spec.1 pk6_ig33.choose_spec.2 Nd (s.ids) ([(Sha.sum (p.bytes))]) (Abf hr_vi T6) (XW d8 (vr gu rfl)) (fun _ _=>Ag _) (by simp only[Ach,Acl];omega) (by simp only[Ach,Acl];omega) hE.size fun ax d9 ae a2=> ?_);have a2:Grew gv d9 vi ax:= .eqv T6 a2;have ac:=ac.keep br;have gw:OB ax n8:=Ap a2 hap_vi_n8 ac.lt;have hr_vb:=BK hr_vb bz hap_vb_n8;have hr_vb:=Aa5 _ _ _ _ _ _ _ _ hr_vb br;have gx:Ae ax vb:=Az a2 hap_vi_vb hr_vb;have ea:Ae vb ax:=fun k h1 h2=>gx k h2 h1;have hb38l:=kb bz hb38l (by omega);have hb38l:=eb br hb38l;have gy:OB ax ab:=Ap a2 hap_vi_n24 (bl hb38l);have f:=kb bq f (by omega);have f:=kb bz f (by omega);have f:=eb br f;have t:=eb br t;have hE:=Ao hE a2 hr_vi.2 (AbO _);have hr_vb:=Dr hr_vb a2 hap_vi_vb;have f:=Ar f a2 dk;have t:=Ar t a2 d5;have hb38l:=Ar hb38l a2 hap_vi_n24;have ac:=Aba ac a2 hap_vi_n8;clear d8;clear hr_vi;refine gS (Aa0 Cc rfl (gS (XP F7 rfl rfl (cellAt f rfl) (gS (XZ F7 (XV (hpr.keep hE) rfl) (gS (XR (xv:=NI s.total) (yv:=NI ((p.bytes:Ah5).length)) T8 rfl rfl (Ah _ _ _ (by omega)) (gS (Aa0 BO rfl (gS (XP Tk rfl rfl (cellAt f rfl) (gS (XQ (a:=(m:Nat)) (b:=(0:Nat)) rfl rfl (AK _ _ _ _) (kF (by omega) ?_))))))))))))));have hm32:(s.ids.getD m []).length=32:=hB.len _ (AO [] (by omega));have hpq:=(hps _ (AO AA (l:=ps) (i:=m) (by omega))).1;have hql:=hL.2 _ (AO AA (l:=ps) (i:=m) (by omega));have hmk:=Io (ps.getD m AA).bytes p.bytes (by omega) (by omega);refine cF rfl (gS (Aa0 BO rfl (gS (XP Tk rfl rfl (cellAt f rfl) ?_))));have c1:(AbK (((s.ids)++ [(Sha.sum (p.bytes))]).getD (m) ([]:Ah5))).length=32:=(Aa6 (X1 ae) ([]:Ah5) (by rw[AbP];omega));refine gS (X9 Nd RA (by decide) ([]:Ah5) (XW (X1 ae) rfl) rfl (by rw[AbP];omega) fun kd ec=>(gS (Yg (Yc ec rfl) U7 rfl (by rw[c1];exact Rl) (gS (Aa3 Tn fun ba gz ck ed c2 ke=> ?_)))));have ay:=AaY d9;have kf:=hE.size;have kg:=As (bl f) ck;have kh:=As (bl t) ck;have ki:=As (bl hb38l) ck;have kj:=As ac.lt ck;have ee:OB vb ba:=A9 hr_vb (by omega);have g0:OB ax ba:=A9 ae.2 (by omega);have ah:=ed;clear ed;have kk:ba<gz.heap.size:=by omega
  refine gS (XT (vr (PQ ba 0) rfl) (vr (AB (((s.ids)++ [(Sha.sum (p.bytes))]).getD (m) ([]:Ah5))) rfl) ah (by exact BC (AC (c1)) Ab8) (by exact Ad (AC (c1))) (Ag _) fun g1 ef c3 kl=> ?_);have ac:=ac.keep c2;have ac:=Aa2 ac c3 (Am (by omega));clear ah;have ah:=ef;clear ef;have km:=bl ah;clear ec;have ah:g1.heap[ba]? =some (.cells (AbK (s.ids.getD m [])).toArray 33 (0,0)):=AW ah (congrArg AbK (by rw[AbN,AcG (by omega),<-AbN]));refine CA [0,3,1,2,4,5] [1,2,4,5] [3] fun kn cl=>(yp (Yy U7 PO rfl zz) (yC (YW (b:=1) Ru (vr (B8 (1)) rfl) fun cm g2 a5=> ?_)));have ay:=ay.trans c2;have ay:=Ab ay c3 (AbM (AbO _) (by omega));have ay:=ay.trans cl;have hE:=hE.trans ay;have ko:=hE.size;have kp:=ay.size;have f:=eb ay f;have t:=eb ay t;have hb38l:=eb ay hb38l;have ac:=ac.keep cl;have ah:=eb cl ah;have hr_vb:=Aa5 _ _ _ _ _ _ _ _ hr_vb ay;have eg:Ae vb cm:=DF hr_vb a5.own;have ae:=ae.keep c2;have ae:=Abc ae c3 g0;have ae:=ae.keep cl;have bb:=a5.own;have hE:=hE.trans a5.ext;have hr_vb:=Aa5 _ _ _ _ _ _ _ _ hr_vb a5.ext;refine yC (Yh _ _ w.heap.size (.int .u8 0) F7 MM rfl F7 (s.b) ([(1:UInt8)]) (CV hr_vb T4) (XV (Ya bb) (vr cm rfl)) (by simp only[Ach,Acl];omega) hE.size fun a6 eh c4 ai=> ?_);have ai:Grew g2 eh vb a6:= .eqv T4 ai;have ac:=ac.keep a5.ext;have ei:OB a6 n8:=Ap ai hap_vb_n8 ac.lt;have hb38l:=eb a5.ext hb38l;have ej:OB a6 ab:=Ap ai hap_vb_n24 (bl hb38l);have f:=eb a5.ext f;have el:OB a6 am:=Ap ai ci (bl f);have t:=eb a5.ext t;have em:OB a6 bp:=Ap ai c0 (bl t);have ae:=ae.keep a5.ext;have en:Ae a6 ax:=Az ai ea ae.2;have ah:=eb a5.ext ah;have eo:OB a6 ba:=Ap ai ee (bl ah);have ep:Ae a6 cm:=Az ai eg bb;have hE:=Ao hE ai hr_vb (AbO _);have f:=Ar f ai ci;have t:=Ar t ai c0;have hb38l:=Ar hb38l ai hap_vb_n24;have ac:=Aba ac ai hap_vb_n8;have ae:=AZ ae ai ea;have ah:=Ar ah ai ee;have bb:=Dr bb ai eg;clear hr_vb;refine yC (Yh _ _ w.heap.size (.int .u8 0) F7 MM rfl F7 (s.b++ [(1:UInt8)]) (s.ids.getD m []) (CV c4 (vr a6 rfl)) (XV (YL ah hm32 (by decide)) (vr (.slice (some ⟨ba,0,none⟩) 32 32) rfl)) (by simp only[AbP,Ach,Acl,hm32];omega) hE.size fun r g cn aj=> ?_);have aj:Grew eh g a6 r:=aj;have eq:OB r n8:=Ap aj ei ac.lt;have er:OB r ab:=Ap aj ej (bl hb38l);have c5:OB r am:=Ap aj el (bl f);have g3:OB r bp:=Ap aj em (bl t);have es:Ae r ax:=Az aj en ae.2;have g4:OB r ba:=Ap aj eo (bl ah);have g5:Ae r cm:=Az aj ep bb;have hE:=Ao hE aj c4 (AbO _);have f:=Ar f aj el;have t:=Ar t aj em;have hb38l:=Ar hb38l aj ej;have ac:=Aba ac aj ei;have ae:=AZ ae aj en;have ah:=Ar ah aj eo;have bb:=Dr bb aj ep;clear c4;refine yC (Abb rfl (gR ?_));have c6:∀k,AbS r=some k->w.heap.size<=k:=fun k hk=>(cn.lt k hk).1;have hsz_:w.heap.size<=g.heap.size:=hE.size;refine Em (AbS r) [] [0] (fun m=> []) (fun m=> []) [fun x w' =>EW w.heap.size g.heap.size 5 (AbS r) (s.b++ [(1:UInt8)]++s.ids.getD m []) x w',Is (v),Is (PQ am 1),Is (NI m),fun x w' =>PR (partC (ps.getD (m) AA)) x w',fun x w' =>PR (((partC (ps.getD (m) AA)).drop 0).take 1) x w',Is ((ps.getD (m) AA).v),Is (PQ am 0),Is (p.v),fun x w' =>RB w' x (BV ((ps.getD m AA).bytes) (p.bytes)),Is (St (BV ((ps.getD m AA).bytes) (p.bytes))),fun x w' =>EW w.heap.size g.heap.size 5 (AbS r) ((s.b++ [(1:UInt8)]++s.ids.getD m []:Ah5)++Bn (BV ((ps.getD m AA).bytes) (p.bytes):Ah5)) x w',fun x w' =>EW w.heap.size g.heap.size 5 (AbS r) ((s.b++ [(1:UInt8)]++s.ids.getD m []:Ah5)++Bn (BV ((ps.getD m AA).bytes) (p.bytes):Ah5)) x w'] (by kernel_rfl) [109,110,111,112,113,114,115,116,117,118,119,120,4] (by kernel_rfl) (by kernel_rfl) (by kernel_rfl) (by kernel_rfl) (by kernel_rfl) rfl ⟨(fun _ _ _ h k=>⟨Aa5 _ _ _ _ _ _ _ _ h.1 k,h.2⟩),X0 _,X0 _,X0 _,(fun _ _ _ h k=>Abm h k),(fun _ _ _ h k=>Abm h k),X0 _,X0 _,X0 _,(fun _ _ _ h k=>Abx h k),X0 _,(fun _ _ _ h k=>⟨Aa5 _ _ _ _ _ _ _ _ h.1 k,h.2⟩),(fun _ _ _ h k=>⟨Aa5 _ _ _ _ _ _ _ _ h.1 k,h.2⟩),trivial⟩ trivial ?g6 ?hQ5028
  case g6=>
   refine⟨?_,?_,?_,?_,?_,?_,?_,?_,?_,?_,?_,?_,?_,trivial⟩
   ·refine Aj rfl fun σ w1 hC h=> ?_;have hX:Ext g w1:=hC;have hC:BX g.heap.size (AbS r) g w1:=Yq hX (AbO _);have e4:σ 4=r:=(AH (h 4 (by decide))).trans rfl;exact Aa7 e4 ⟨AaY _,Aa5 _ _ _ _ _ _ _ _ cn hX,fun k hk=> .inl hk⟩
   ·refine Aj rfl fun σ w1 hC h=> ?_;have hC:BX g.heap.size (AbS r) g w1:=hC;have e0:=(AH (h 0 (by decide))).trans T0;exact Aa7 e0 ⟨AaY _,rfl⟩
   ·refine Aj rfl fun σ w1 hC h=> ?_;have hC:BX g.heap.size (AbS r) g w1:=hC;have b8:σ 10=PQ am 0:=(AH (h 10 (by decide))).trans rfl;exact Aa0 BO b8 ⟨AaY _,rfl⟩
   ·refine Aj rfl fun σ w1 hC h=> ?_;have hC:BX g.heap.size (AbS r) g w1:=hC;have g8:=AH (h 111 (by decide));exact XP Tk rfl g8 (cellAt (BX.blk hC f c5) (show _=some (NI m:AbI)from rfl)) ⟨AaY _,rfl⟩
   ·refine Aj rfl fun σ w1 hC h=> ?_;have hC:BX g.heap.size (AbS r) g w1:=hC;have g9:=AH (h 110 (by decide));have ha:=AH (h 112 (by decide));exact X9 Fw Kw (by decide) AA (XW (hr.keep (Dz hE hC (by omega) (fun k hk=>by have:=c6 k hk;omega))) g9) ha (by omega) fun v h=>⟨AaY _,h⟩
   ·refine Aj rfl fun σ w1 hC h=> ?_;have hC:BX g.heap.size (AbS r) g w1:=hC;have hb:(fun x w' =>PR (partC (ps.getD (m) AA)) x w') (σ 113) w1:=h 113 (by decide);exact Z4 (n:=1) Cc hb fun v h=>⟨AaY _,h⟩
   ·refine Aj rfl fun σ w1 hC h=> ?_;have hC:BX g.heap.size (AbS r) g w1:=hC;have hc:(fun x w' =>PR (((partC (ps.getD (m) AA)).drop 0).take 1) x w') (σ 114) w1:=h 114 (by decide);exact X4 F7 rfl (Abd hc (show _=some ((ps.getD (m) AA).v:AbI)from rfl)) ⟨AaY _,rfl⟩
   ·refine Aj rfl fun σ w1 hC h=> ?_;have hC:BX g.heap.size (AbS r) g w1:=hC;have b8:σ 10=PQ am 0:=(AH (h 10 (by decide))).trans rfl;exact Aa0 Cc b8 ⟨AaY _,rfl⟩
   ·refine Aj rfl fun σ w1 hC h=> ?_;have hC:BX g.heap.size (AbS r) g w1:=hC;have hd:=AH (h 116 (by decide));exact XP F7 rfl hd (cellAt (BX.blk hC f c5) (show _=some (p.v:AbI)from rfl)) ⟨AaY _,rfl⟩
   ·refine Aj rfl fun σ w1 hC h=> ?_;have hC:BX g.heap.size (AbS r) g w1:=hC;have hh:=AH (h 115 (by decide));have hj:=AH (h 117 (by decide));refine XS R4 hh hj ((Tr _ ((ps.getD (m) AA).v) (p.v) ((ps.getD m AA).bytes) (p.bytes) (hpq.keep (Dz hE hC (by omega) (fun k hk=>by have:=c6 k hk;omega))) (hpr.keep (Dz hE hC (by omega) (fun k hk=>by have:=c6 k hk;omega))) (by omega) (by omega)).mono ?_);rintro e w2 ⟨_,rfl,hx,ho⟩;exact⟨_,rfl,hx,Ya ho⟩
   ·refine Aj rfl fun σ w1 hC h=> ?_;have hC:BX g.heap.size (AbS r) g w1:=hC;have hl:(fun x w' =>RB w' x (BV ((ps.getD m AA).bytes) (p.bytes))) (σ 118) w1:=h 118 (by decide);exact Yo F7 u5 Pi hl ⟨AaY _,rfl⟩
   ·refine Aj rfl fun σ w1 hC h=> ?_;have hC:BX g.heap.size (AbS r) g w1:=hC;have hn:(fun x w' =>EW w.heap.size g.heap.size 5 (AbS r) (s.b++ [(1:UInt8)]++s.ids.getD m []) x w') (σ 109) w1:=h 109 (by decide);have ht:=AH (h 119 (by decide));refine XS LT rfl ht ((No _ (σ 109) (s.b++ [(1:UInt8)]++s.ids.getD m []) (Ya hn.1) (BV ((ps.getD m AA).bytes) (p.bytes)) (by simp only[AbP,Ach,Acl,hm32];omega)).mono ?_);rintro e w2 ⟨v,rfl,hN⟩;exact⟨_,rfl,hN.ext,BJ hN.own (AbM hsz_ hC.size),fun k hk=> .inr (AbM hC.size (hN.own.lt k hk).1)⟩
   ·refine Aj rfl fun σ w1 hC h=> ?_;have hC:BX g.heap.size (AbS r) g w1:=hC;have hu:(fun x w' =>EW w.heap.size g.heap.size 5 (AbS r) ((s.b++ [(1:UInt8)]++s.ids.getD m []:Ah5)++Bn (BV ((ps.getD m AA).bytes) (p.bytes):Ah5)) x w') (σ 120) w1:=h 120 (by decide);exact Abb rfl ⟨AaY _,hu⟩
  intro et eu hv he hf;obtain⟨-,-,-,-,-,-,-,-,-,-,-,-,k4,-⟩:=hf;obtain⟨T0,T5,T6,T7,T8,T9,ge,gf,gg,kq,aq,ar,ad,gh,gi,gj,gk,-⟩:=he.hold [(0,_),(5,_),(6,ax),(7,_),(8,NI ((s.total)+((p.bytes:Ah5).length))),(9,_),(10,PQ am 0),(11,PQ bp 0),(13, .bool (false)),(14,PQ ba 0),(28,_),(29,_),(30,_),(47, .bool (false)),(58, .bool (false)),(61, .bool (true)),(91, .bool (false))] ⟨T0,T5,rfl,T7,rfl,ad,rfl,rfl,rfl,rfl,aq,ar,ad,rfl,rfl,rfl,rfl,trivial⟩ rfl;clear he;have k4:(fun x w' =>EW w.heap.size g.heap.size 5 (AbS r) ((s.b++ [(1:UInt8)]++s.ids.getD m []:Ah5)++Bn (BV ((ps.getD m AA).bytes) (p.bytes):Ah5)) x w') (et 4) eu:=k4;obtain⟨b0,T4⟩:∃v,et 4=v:=⟨_,rfl⟩;rw[T4]at k4;have a3:Grew g eu r b0:=⟨hv.grown,k4.2⟩;have hw:=k4.1;clear k4;have hy:OB b0 n8:=Ap a3 eq ac.lt;have hz:OB b0 ab:=Ap a3 er (bl hb38l);have ew:Ae b0 ax:=Az a3 es ae.2;have h0:Ae ax b0:=fun k h1 h2=>ew k h2 h1;have hE:=Ao hE a3 cn (AbO _);have f:=Ar f a3 c5;have t:=Ar t a3 g3;have hb38l:=Ar hb38l a3 er;have ac:=Aba ac a3 eq;have ae:=AZ ae a3 es;have ah:=Ar ah a3 g4;have bb:=Dr bb a3 g5;clear cn;refine gX ?_;have hbn:(bnext ps p s).b=s.b++ [1]++s.ids.getD m []++Bn (BV (ps.getD m AA).bytes p.bytes):=by unfold bnext;simp only;rw[if_neg hC0,hm,Ab0]
  refine gS (XR (xv:=NI i) (yv:=NI 1) ad rfl rfl (Ah _ _ _ (by omega)) ?_);have hdep:d2=(bnext ps p s).depths++AbX (ps.length-(i+1)) 0:=by rw[hd2];simp only[bnext,Acj,Ae0,Nat.sub_sub]
  refine gK (Acr ⟨i+1,bnext ps p s,b0,ax,T0,T5,T7,aq,ar,rfl,T8,T4,T6,hE,Dj hw (by rw[hbn]),Bc ae (rfl),B5 ac ((Iu hB hin).symm),AW hb38l (congrArg (Aeq fun x=>NI x) hdep),hst3,by omega,hy,ew,hz,gw,h0,gy,trivial⟩ ?_);show ps.length-(intOf (NI ((i)+(1)))).toNat<ps.length-(intOf (de 30)).toNat;rw[q30];simp only[intOf,Ab0];omega
 have hie:i=ps.length:=by omega
 have hfl:=BR s.ids;have hsl:=Gt s.ids;refine gS (XZ F7 (XV (Ya hr_vb) T4) (gS (XX R5 T6 ((Pb _ vi (s.ids) (X1 hr_vi)).mono ?_))));rintro e kr ⟨rfl,b9⟩;refine⟨_,rfl,?_⟩;have hE:=hE.trans b9;have hr_vb:=Aa5 _ _ _ _ _ _ _ _ hr_vb b9;have hr_vi:=hr_vi.keep b9;have hb11l:=hb11l.keep b9;have hb38l:=eb b9 hb38l;refine gL (fun(ρ:Ac) (wz:AbJ)=>∃c:Nat,∃vc:AbI,ρ 0=(v:AbI)/\ρ 5=(.map (some n8):AbI)/\ρ 6=(vi:AbI)/\ρ 7=(.slice (some ⟨ab,0,none⟩) ps.length ps.length:AbI)/\ρ 8=(NI s.total:AbI)/\ρ 15=(NI ((s.b:Ah5).length):AbI)/\ρ 28=(v:AbI)/\ρ 29=(NI ps.length:AbI)/\ρ 30=(NI i:AbI)/\ρ 125=(.agg ((Ba (s.ids)).map fun x=>NI x).toArray:AbI)/\ρ 126=(NI c:AbI)/\ρ 4=(vc:AbI)/\Ext w wz/\OG w.heap.size 33 32 (AbK) wz vi (s.ids)/\MapF rk NI (fun id:Ah5 =>id.length=32) wz n8 (Bo s)/\wz.heap[ab]? =some (.cells (dl.map fun x=>NI x).toArray 3 (0,0))/\wz.ownsRow w.heap.size 5 1 vc (s.b++((Ba s.ids).take c).flatMap A5:Ah5).length (AbK (s.b++((Ba s.ids).take c).flatMap A5))/\(c<=256)/\(OB vc n8)/\(Ae vc vi)/\(OB vc ab)/\True) (fun ρ _=>256-(intOf (ρ 126)).toNat) ⟨0,vb,T0,T5,T6,T7,T8,rfl,aq,ar,ad,rfl,rfl,T4,hE,hr_vi,hb11l,hb38l,Dj hr_vb (by simp),by omega,hap_vb_n8,hap_vb_vi,hap_vb_n24,trivial⟩ ?_;clear hr_vb;clear hE hr_vi hb11l hb38l;rintro h3 h4 ⟨c,vc,T0,T5,T6,T7,T8,ca,aq,ar,ad,cb,bs,T4,hE,hr_vi,hb11l,hb38l,hr_vc,hcl,hap_vc_n8,hap_vc_vi,hap_vc_n24,-⟩;have q126:=bs;have hbl:(s.b++((Ba s.ids).take c).flatMap A5).length<=40000:=by rw[AbP,Ks,Ab5];omega
 have hfc:=I4 s.ids c;refine gS (XQ (a:=(c:Nat)) (b:=(256:Nat)) bs rfl (AK _ _ _ _) ?_);refine cD rfl (fun h5=> ?_) fun h5=> ?_
 ·refine gS (ZX (l:=Ba (s.ids)) (i:=c) D6 Tk rfl G2 cb bs (by omega) (by rw[hfl]) (gS (XS Iw T4 rfl ((JG w _ hE vc (s.b++((Ba s.ids).take c).flatMap A5) ((Ba (s.ids)).getD (c) 0) (by have:=I4 s.ids c;omega) (by omega) hr_vc).mono ?_))));rintro e ks ⟨co,rfl,h6,bt⟩;refine⟨_,rfl,?_⟩;have h7:OB co n8:=Ap bt hap_vc_n8 hb11l.lt;have h8:Ae co vi:=Az bt hap_vc_vi hr_vi.2;have h9:OB co ab:=Ap bt hap_vc_n24 (bl hb38l);have hE:=Ao hE bt hr_vc (AbO _);have hr_vi:=AZ hr_vi bt hap_vc_vi;have hb11l:=Aba hb11l bt hap_vc_n8;have hb38l:=Ar hb38l bt hap_vc_n24;clear hr_vc;refine gS (XR (xv:=NI c) (yv:=NI 1) bs rfl rfl (Ah _ _ _ (by omega)) (gK (Acr ⟨c+1,co,T0,T5,T6,T7,T8,ca,aq,ar,ad,cb,rfl,rfl,hE,hr_vi,hb11l,hb38l,Dj h6 (by rw[Ku (Ba s.ids) c 0 (by rw[hfl];omega),AeC,AcJ,List.flatMap_nil,AdG,Acj]),by omega,h7,h8,h9,trivial⟩ ?_)));show 256-(intOf (NI ((c)+(1)))).toNat<256-(intOf (h3 126)).toNat;rw[q126];simp only[intOf,Ab0];omega
 refine gS (XX Tv T6 ((Nh _ vi (s.ids) (by omega) (X1 hr_vi)).mono ?_));rintro e kt ⟨bk,rfl,y,cc⟩;refine⟨_,rfl,?_⟩;have ku:=hE.size;have ia:Ae vc bk:=DF hr_vc y.2;have hE:=hE.trans cc;have hr_vi:=hr_vi.keep cc;have hb11l:=hb11l.keep cc;have hb38l:=eb cc hb38l;have hr_vc:=Aa5 _ _ _ _ _ _ _ _ hr_vc cc;refine gS (X6 Nd (XW (X1 y) rfl) (gL (fun(ρ:Ac) (wz:AbJ)=>∃j:Nat,∃ve:AbI,ρ 0=(v:AbI)/\ρ 5=(.map (some n8):AbI)/\ρ 6=(vi:AbI)/\ρ 7=(.slice (some ⟨ab,0,none⟩) ps.length ps.length:AbI)/\ρ 8=(NI s.total:AbI)/\ρ 15=(NI ((s.b:Ah5).length):AbI)/\ρ 28=(v:AbI)/\ρ 29=(NI ps.length:AbI)/\ρ 30=(NI i:AbI)/\ρ 125=(.agg ((Ba (s.ids)).map fun x=>NI x).toArray:AbI)/\ρ 126=(NI c:AbI)/\ρ 134=(bk:AbI)/\ρ 135=(NI (((AJ (s.ids))).length):AbI)/\ρ 136=(NI j:AbI)/\ρ 4=(ve:AbI)/\Ext w wz/\OG w.heap.size 33 32 (AbK) wz vi (s.ids)/\MapF rk NI (fun id:Ah5 =>id.length=32) wz n8 (Bo s)/\wz.heap[ab]? =some (.cells (dl.map fun x=>NI x).toArray 3 (0,0))/\OG h4.heap.size 33 32 AbK wz bk (AJ (s.ids))/\wz.ownsRow w.heap.size 5 1 ve (s.b++(Ba s.ids).flatMap A5++((AJ s.ids).take j).flatMap (fun id=>id++A5 ((Bo s id).getD 0)):Ah5).length (AbK (s.b++(Ba s.ids).flatMap A5++((AJ s.ids).take j).flatMap (fun id=>id++A5 ((Bo s id).getD 0))))/\(j<=s.ids.length)/\(OB ve n8)/\(Ae ve vi)/\(OB ve ab)/\(Ae ve bk)/\True) (fun ρ _=>s.ids.length-(intOf (ρ 136)).toNat) ⟨0,vc,T0,T5,T6,T7,T8,ca,aq,ar,ad,cb,bs,rfl,rfl,rfl,T4,hE,hr_vi,hb11l,hb38l,y,Dj hr_vc (by rw[show c=256 by omega,AcD (by rw[hfl];omega)];simp),by omega,hap_vc_n8,hap_vc_vi,hap_vc_n24,ia,trivial⟩ ?_));clear hr_vc;clear hE hr_vi hb11l hb38l y;rintro ib ic ⟨j,ve,T0,T5,T6,T7,T8,ca,aq,ar,ad,cb,bs,ex,ey,cp,T4,hE,hr_vi,hb11l,hb38l,y,hr_ve,hjl,hap_ve_n8,hap_ve_vi,hap_ve_n24,hap_ve_v351,-⟩;have q136:=cp;have hbl2:(s.b++(Ba s.ids).flatMap A5++((AJ s.ids).take j).flatMap (fun id=>id++A5 ((Bo s id).getD 0))).length<=60000:=by rw[AbP,AbP,Ks,hfl,Nn (fun id=>(Bo s id).getD 0) _ (fun x hx=>hB.len x ((sortB_perm _).subset (List.mem_of_mem_take hx))),Ab5];omega
 refine gS (XQ (a:=(j:Nat)) (b:=(((AJ (s.ids))).length:Nat)) cp ey (AK _ _ _ _) ?_);refine cD rfl (fun ie=> ?_) fun ie=> ?_
 ·have ez:((AJ s.ids).getD j []).length=32:=hB.len _ ((sortB_perm _).subset (AO [] (by omega)));obtain⟨q2,hq2,hqm⟩:∃q,Bo s ((AJ s.ids).getD j [])=some q/\q∈s.places:=DU s.ids s.places _ (by omega) ((sortB_perm _).subset (AO [] (by omega)));have hq2l:=hB.pl q2 hqm;have b1:(AbK (((AJ (s.ids))).getD (j) ([]:Ah5))).length=32:=(Aa6 (X1 y) ([]:Ah5) (by omega));refine gS (X9 Nd RA (by decide) ([]:Ah5) (XW (X1 y) ex) cp (by omega) fun kv e1=>(gS (Yg (Yc e1 rfl) U7 rfl (by rw[b1];exact Rl) (gS (Aa3 Tn fun bm ig e2 e3 cq kw=> ?_)))));have bc:=AaY ic;have kx:=hE.size;have ky:=As hb11l.lt e2;have kz:=As (bl hb38l) e2;have e5:OB ve bm:=A9 hr_ve (by omega);have ih:OB vi bm:=A9 hr_vi.2 (by omega);have ii:OB bk bm:=A9 y.2 (by omega);have ao:=e3;clear e3;have k0:bm<ig.heap.size:=by omega
  refine gS (XT (vr (PQ bm 0) rfl) (vr (AB (((AJ (s.ids))).getD (j) ([]:Ah5))) rfl) ao (by exact BC (AC (b1)) Ab8) (by exact Ad (AC (b1))) (Ag _) fun k1 e6 cr k2=> ?_);have hb11l:=hb11l.keep cq;have hb11l:=Aa2 hb11l cr (Am (by omega));clear ao;have ao:=e6;clear e6;have k3:=bl ao;clear e1;refine DZ [0,1,3,4,5,2,6,7] [2,6,7] [] [4,5] fun ij cd=> ?_;have bc:=bc.trans cq;have bc:=Ab bc cr (AbM (AbO _) (by omega));have bc:=bc.trans cd;have hE:=hE.trans bc;have hr_ve:=Aa5 _ _ _ _ _ _ _ _ hr_ve bc;have hb11l:=hb11l.keep cd;have ao:=eb cd ao;refine m2 (A:=fun wz=>wz.heap[bm]? =some (.cells (AbK (((AJ (s.ids))).getD (j) ([]:Ah5))).toArray 33 (0,0))) ao (B:=fun wz=>MapF rk NI (fun id:Ah5 =>id.length=32) wz n8 (Bo s)) hb11l ?_;refine ys (Yy U7 PO rfl zz) (yf (fun _ ⟨ao,_,_⟩=>XU rfl ao U7 rfl (by exact Ad (AC (b1))) zz) (yf (fun _ ⟨_,hb11l,_⟩=>YM (ek:=rk) (ev:=NI) (D:=(fun id:Ah5 =>id.length=32)) Ce Cf (fun _ _=>B9) D9 (z:=NI 0) G3 T5 rfl hb11l (AC (b1)) hq2 zz) (yI (Yh _ _ w.heap.size (.int .u8 0) F7 MM rfl F7 (s.b++(Ba s.ids).flatMap A5++((AJ s.ids).take j).flatMap (fun id=>id++A5 ((Bo s id).getD 0))) (((AJ (s.ids))).getD (j) ([]:Ah5)) (CV hr_ve T4) (XV (YL ao (AC (b1)) (by decide)) (vr (.slice (some ⟨bm,0,none⟩) 32 32) rfl)) (by rw[ez];omega) hE.size fun bu ik c7 av=> ?_))));have av:Grew ij ik ve bu:= .eqv T4 av;have e7:OB bu n8:=Ap av hap_ve_n8 hb11l.lt;have hr_vi:=hr_vi.keep cq;have hr_vi:=Abc hr_vi cr ih;have hr_vi:=hr_vi.keep cd;have e8:Ae bu vi:=Az av hap_ve_vi hr_vi.2;have hb38l:=eb bc hb38l;have e9:OB bu ab:=Ap av hap_ve_n24 (bl hb38l);have y:=y.keep cq;have y:=Abc y cr ii;have y:=y.keep cd;have fa:Ae bu bk:=Az av hap_ve_v351 y.2;have il:OB bu bm:=Ap av e5 (bl ao);have hE:=Ao hE av hr_ve (AbO _);have hr_vi:=AZ hr_vi av hap_ve_vi;have hb11l:=Aba hb11l av hap_ve_n8;have hb38l:=Ar hb38l av hap_ve_n24;have y:=AZ y av hap_ve_v351;have ao:=Ar ao av e5;clear hr_ve;refine⟨⟨ao,hb11l,trivial⟩,?_⟩;refine yD rfl (XS Iw rfl rfl ((JG w _ hE bu (s.b++(Ba s.ids).flatMap A5++((AJ s.ids).take j).flatMap (fun id=>id++A5 ((Bo s id).getD 0))++((AJ (s.ids))).getD (j) ([]:Ah5)) (q2) (by omega) (by rw[AbP,ez];omega) c7).mono ?_));rintro e k5 ⟨ce,rfl,im,a7⟩;refine⟨_,rfl,?_⟩;have io:OB ce n8:=Ap a7 e7 hb11l.lt;have ip:Ae ce vi:=Az a7 e8 hr_vi.2;have iq:OB ce ab:=Ap a7 e9 (bl hb38l);have ir:Ae ce bk:=Az a7 fa y.2;have hE:=Ao hE a7 c7 (AbO _);have hr_vi:=AZ hr_vi a7 e8;have hb11l:=Aba hb11l a7 e7;have hb38l:=Ar hb38l a7 e9;have y:=AZ y a7 fa;have ao:=Ar ao a7 il;clear c7;refine yD rfl (Abb rfl (gS (XR (xv:=NI j) (yv:=NI 1) cp rfl rfl (Ah _ _ _ (by omega)) (gK (Acr ⟨j+1,ce,T0,T5,T6,T7,T8,ca,aq,ar,ad,cb,bs,ex,ey,rfl,rfl,hE,hr_vi,hb11l,hb38l,y,Dj im (by rw[Ku (AJ s.ids) j [] (by rw[hsl];omega),AeC,AcJ,List.flatMap_nil,AdG];simp only[hq2,Option.getD_some,Acj]),by omega,io,ip,iq,ir,trivial⟩ ?_)))));show s.ids.length-(intOf (NI ((j)+(1)))).toNat<s.ids.length-(intOf (ib 136)).toNat;rw[q136];simp only[intOf,Ab0];omega
 refine gS (XS Iw T4 ca ((JG w _ hE ve (s.b++(Ba s.ids).flatMap A5++((AJ s.ids).take j).flatMap (fun id=>id++A5 ((Bo s id).getD 0))) ((s.b:Ah5).length) (by omega) (by omega) hr_ve).mono ?_));rintro e iu ⟨bd,rfl,aw,be⟩;refine⟨_,rfl,?_⟩;have iv:OB bd n8:=Ap be hap_ve_n8 hb11l.lt;have iw:Ae bd vi:=Az be hap_ve_vi hr_vi.2;have ix:OB bd ab:=Ap be hap_ve_n24 (bl hb38l);have iy:Ae bd bk:=Az be hap_ve_v351 y.2;have hE:=Ao hE be hr_ve (AbO _);have hr_vi:=AZ hr_vi be hap_ve_vi;have hb11l:=Aba hb11l be hap_ve_n8;have hb38l:=Ar hb38l be hap_ve_n24;have y:=AZ y be hap_ve_v351;clear hr_ve;obtain⟨C,hCd⟩:∃C,C=s.b++Cm s s.b.length:=⟨_,rfl⟩;have aw:iu.ownsRow w.heap.size 5 1 bd (C:Ah5).length (AbK (C)):=(by rw[hCd,AcD (by rw[hsl];omega)];unfold Cm;simp only[Acj]:(s.b++(Ba s.ids).flatMap A5++((AJ s.ids).take j).flatMap (fun id=>id++A5 ((Bo s id).getD 0)):Ah5)++A5 ((s.b:Ah5).length)=C)▸aw;have hCl:C.length<=60000:=by rw[hCd,AbP,GP hB];omega
 refine gS (YA Ga (XV (Ya aw) (vr bd rfl)) fun iz k6 i0 fb=> ?_);have hE:=hE.trans fb;refine gS (XX JM rfl ((F0 _ (hG.keep hE) iz (C) i0 (by omega)).mono ?_));rintro e i1 ⟨rfl,fc⟩;refine⟨_,rfl,?_⟩;refine gS (Aa3 Tn fun cs i2 fd fe cf k7=> ?_);have b2:=AaY i1;have hE:=hE.trans fc;have i3:=hE.size;have hZ3:=fb.trans fc;have hb11l:=hb11l.keep hZ3;have k8:=As hb11l.lt fd;have hb38l:=eb hZ3 hb38l;have k9:=As (bl hb38l) fd;have aw:=Aa5 _ _ _ _ _ _ _ _ aw hZ3;have ff:OB bd cs:=A9 aw (by omega);have bv:=fe;clear fe;have la:cs<i2.heap.size:=by omega
 refine gS (XT (vr (PQ cs 0) rfl) (vr (AB (Sha.sum (C))) rfl) bv (by exact BC (Sha.sum_length _) Ab8) (by exact Ad (Sha.sum_length _)) (Ag _) fun i4 fg cg lb=> ?_);have hb11l:=hb11l.keep cf;have hb11l:=Aa2 hb11l cg (Am (by omega));clear bv;have bv:=fg;clear fg;have lc:=bl bv;have hE:=hE.trans cf;have hE:=Ab hE cg (AbM i3 (by omega));have aw:=Aa5 _ _ _ _ _ _ _ _ aw cf;have aw:=BK aw cg ff;refine gS (Yy U7 PO rfl (gS (Yh _ _ w.heap.size (.int .u8 0) F7 MM rfl F7 (C) (Sha.sum (C)) (CV aw (vr bd rfl)) (XV (YL bv (Sha.sum_length _) (by decide)) (vr (.slice (some ⟨cs,0,none⟩) 32 32) rfl)) (by rw[Sha.sum_length];omega) hE.size fun fh i5 fi bn=> ?_)));have bn:Grew i4 i5 bd fh:=bn;have b2:=b2.trans cf;have b2:=Ab b2 cg (AbM (AbO _) (by omega));have hr_vi:=hr_vi.keep (hZ3.trans b2);have hb38l:=eb cf hb38l;have hb38l:=kb cg hb38l (by omega);have y:=y.keep (hZ3.trans b2);have hE:=Ao hE bn aw (AbO _);have hr_vi:=AZ hr_vi bn iw;have hb11l:=Aba hb11l bn iv;have hb38l:=Ar hb38l bn ix;have y:=AZ y bn iy;have bv:=Ar bv bn ff;clear aw;refine gS (XZ F7 (XV (Ya fi) rfl) (gS (XQ (a:=((C++Sha.sum (C):Ah5).length:Nat)) (b:=(1048576:Nat)) rfl rfl (Bh _ _ _ _) (kF (by simp only[AbP,Sha.sum_length];omega) (gS (XQ (a:=(s.total:Nat)) (b:=(4194304:Nat)) T8 rfl (Bh _ _ _ _) (kF (by omega) (gS (X2 rfl rfl (cF rfl (BA rfl (vr fh rfl) (vr (NI 0) rfl) ?_)))))))))));rw[RY (show CW ps ps.length = .ok s from by rw[<-hie];exact hs)];refine⟨_,rfl,?_,hE⟩;have hfin:=BJ fi (show w.heap.size<=w.heap.size by first | exact AbO _ | omega);rw[hCd]at hfin;exact hfin
end Go.Proofs.YtfpekahfdalfkaaGreatDoor
