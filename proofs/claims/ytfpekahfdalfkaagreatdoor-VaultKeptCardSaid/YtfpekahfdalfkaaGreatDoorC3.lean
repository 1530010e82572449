/- Part 3 of what stands behind these statements: laws and walks of the functions that are reached. Conditions: those that each theorem names. -/
import Derived.Test.YtfpekahfdalfkaaGreatDoorC2
set_option linter.unusedVariables false
set_option linter.unusedSimpArgs false
namespace Go.Proofs.YtfpekahfdalfkaaGreatDoor
open _root_.Go.Proofs.Tryz renaming prog->Ae5,underlying5->AiI
open _root_.Go renaming Value->Ae2,World->Ae3,TypeId->Afa,Operand->Aff
open _root_.Go.Instr renaming buildSlice->AfM
open _root_.Go.Lib renaming byteCells->Ae4,byteCells_length->Afl,uvarint->Afq,uvarint_small->Ait
open _root_.List renaming length_nil->AfK,nil_append->Af6,length_take_le->Ald,length_take->Afi,length_drop->Afn,length_append->Ae9,map_toArray->AfI,map_cons->AfG,map_nil->AfQ,append_toArray->Ag1,cons_append->Af4,toArray->Agp,length_cons->AfA,replicate->Afk,size_toArray->Afr,mem_singleton->Afh,take_succ_eq_append_getElem->Afv,getD_eq_getElem?_getD->Ae6,getElem?_eq_getElem->Afb,mem_filter->Agr,mem_range->Ai7,length_map->Afu,take_of_length_le->AfU,append_assoc->AfH,drop_left->Ahb,foldl_cons->AhP,take_succ_cons->Ah9,append_nil->AgG,drop_drop->Ajb,flatMap_cons->Af3,length_replicate->Afp,length_set->AgW,flatten_append->Ale,mem_cons->AfT,zip_cons_cons->Ahi,lookup_cons->AgH,mem_append->Afy,getElem?_append_left->AfW,map->AhV,getElem?_append_right->AfR,singleton_append->Aiw,flatMap_append->Ah6,flatMap_nil->Akr
open _root_.Go.Value renaming slice->Afc,ownBlock->Afd
open _root_.Nat renaming le_refl->Ae8,le_trans->Ae7,zero_le->AfC,zero_add->Agt,lt_of_lt_of_le->AfZ,le_of_ble_eq_true->Afj,add_sub_cancel_left->Ahn,min_comm->Alm,sub_self->AgR
open _root_.And renaming intro->AfF
open _root_.Int renaming toNat_natCast->Afg
open _root_.Go.Sem renaming run_bind->Afm,run_pure->Afo
open _root_.Go.Result renaming andThen_ok->Afe
open _root_.Array renaming getElem?_eq_some_iff->Afz
open _root_.Go.World renaming ownsRow_nil->Af5
open Go.RowKit
set_option maxRecDepth 100000
set_option maxHeartbeats 1600000
theorem pk6_ig33:∃z,(Tryz.prog.info? 33).map (fun i=>(i.zero,i.size,i.bytes))=some (some z,32,32)/\z.cells.size=32:=FS (by kernel_rfl)
theorem Ky:Plain Ae5 99:=fun _ _=>by kernel_rfl
theorem Tf:Plain Ae5 100:=fun _ _=>by kernel_rfl
theorem VB(c0 c1 c2 c3 c4 c5 c6 c7 c8 c9 c10 c11 c12 c13 c14 c15 c16 c17 c18 c19 c20 c21 c22 c23 c24 c25 c26 c27 c28 c29 c30 c31:Ae2)(w:Ae3):(AfM 42 1 #[(0, .agg #[c0,c1,c2,c3,c4,c5,c6,c7,c8,c9,c10,c11,c12,c13,c14,c15,c16,c17,c18,c19,c20,c21,c22,c23,c24,c25,c26,c27,c28,c29,c30,c31])]).run Ae5 w = .ok (.slice (some ⟨w.heap.size,0,none⟩) 1 1) (w.alloc (.cells #[c0,c1,c2,c3,c4,c5,c6,c7,c8,c9,c10,c11,c12,c13,c14,c15,c16,c17,c18,c19,c20,c21,c22,c23,c24,c25,c26,c27,c28,c29,c30,c31] 33)):=by kernel_rfl
theorem Ok:∀(cs:Array Ae2),cs.size=32->∀w:Ae3,(AfM 42 1 #[(0, .agg cs)]).run Ae5 w = .ok (.slice (some ⟨w.heap.size,0,none⟩) 1 1) (w.alloc (.cells cs 33))
 | ⟨[c0,c1,c2,c3,c4,c5,c6,c7,c8,c9,c10,c11,c12,c13,c14,c15,c16,c17,c18,c19,c20,c21,c22,c23,c24,c25,c26,c27,c28,c29,c30,c31]⟩,_,w=>VB c0 c1 c2 c3 c4 c5 c6 c7 c8 c9 c10 c11 c12 c13 c14 c15 c16 c17 c18 c19 c20 c21 c22 c23 c24 c25 c26 c27 c28 c29 c30 c31 w
theorem Rr(n:Nat)(ih:∀l:List Bs,l.length<n->∀(w:Ae3) (v:Ae2),RG 32 Ae4 w v l->Calls Ae5 99 #[v, .func (.func 100) #[] #[]] w fun e w' =>∃v' m,e = .returned v' /\OG w.heap.size 33 32 Ae4 w' v' m/\m.Perm l/\Dj m/\Ext w w')(l:List Bs)(hn:l.length=n)(hlim:l.length<=1048576)(w:Ae3)(v:Ae2)(hr:RG 32 Ae4 w v l):
  Calls Ae5 99 #[v, .func (.func 100) #[] #[]] w fun e w' =>∃v' m,e = .returned v' /\OG w.heap.size 33 32 Ae4 w' v' m/\m.Perm l/\Dj m/\Ext w w' :=by
 refine gG (args:= [v, .func (.func 100) #[] #[]]) Tryz.func99 rfl 68 rfl rfl ?_;have hE:=Ad4 w;refine gS (AaW Oi (AaD hr rfl) (gS (Aay (a:=(l.length:Nat)) (b:=(2:Nat)) rfl rfl (AE _ _ _ _) ?_)));refine cD rfl (fun a1=> ?_) fun a1=> ?_
 ·refine gS (Aa2 _ _ w.heap.size _ 32 Oi pk6_ig33.choose_spec.1 pk6_ig33.choose_spec.2 Oi ([]) (l) (Adu _ _ _) (AaD hr (vr v rfl)) (fun _ _=>Ag _) (by simp only[AfK];omega) (by simp only[AfK];omega) hE.size fun v5 w6 bk ak=> ?_);have ak:Grew w w6 (.slice none 0 0) v5:=ak;have hx_:Ext w w6:=Ab7 (by have:=ak.by_;exact this);refine A8 rfl (vr v5 rfl) ?_;have hE:=hE.trans hx_;exact⟨_,l,rfl,OG.base (Bd bk (Af6 l)) (by omega),List.Perm.refl _,Te a1,hE⟩
 refine gR ?_;refine Fa [Is (v),Is (v),Is (NI l.length),Is (NI ((l.length)/(2))),fun x _=>RG 32 (Ae4) w x (l.take ((l.length)/(2))),Is (.func (.func 100) #[] #[]),fun x w' =>∃m,RG 32 Ae4 w' x m/\m.Perm (l.take ((l.length)/(2)))/\Dj m,Is (v),Is (v),Is (NI l.length),Is (NI ((l.length)/(2))),fun x _=>RG 32 (Ae4) w x (l.drop ((l.length)/(2))),Is (.func (.func 100) #[] #[]),fun x w' =>∃m,RG 32 Ae4 w' x m/\m.Perm (l.drop ((l.length)/(2)))/\Dj m,fun x w' =>∃m,RG 32 Ae4 w' x m/\m.Perm (l.take ((l.length)/(2)))/\Dj m,fun x w' =>∃m,RG 32 Ae4 w' x m/\m.Perm (l.drop ((l.length)/(2)))/\Dj m] (by kernel_rfl) [13,14,15,16,17,18,19,20,21,22,23,24,25,26,5,6] (by kernel_rfl) (by kernel_rfl) (NZ ⟨(fun _ _ _ h _=>h),AaG _,(fun _ _ _ ⟨m,h1,h2⟩ k=>⟨m,h1.keep k,h2⟩),(NZ ⟨(fun _ _ _ h _=>h),AaG _,(fun _ _ _ ⟨m,h1,h2⟩ k=>⟨m,h1.keep k,h2⟩),(fun _ _ _ ⟨m,h1,h2⟩ k=>⟨m,h1.keep k,h2⟩),(fun _ _ _ ⟨m,h1,h2⟩ k=>⟨m,h1.keep k,h2⟩),trivial⟩)⟩) ?bm ?hQ1003
 case bm=>
  refine⟨?_,?_,?_,?_,?_,?_,?_,?_,?_,?_,?_,?_,?_,?_,?_,?_,trivial⟩
  ·refine Af rfl fun σ w1 hC h=> ?_;have s:σ 0=v:=(An (h 0 (by decide))).trans rfl;exact Aeb s ⟨Ad4 _,rfl⟩
  ·refine Af rfl fun σ w1 hC h=> ?_;have s:σ 0=v:=(An (h 0 (by decide))).trans rfl;exact Aeb s ⟨Ad4 _,rfl⟩
  ·refine Af rfl fun σ w1 hC h=> ?_;have bn:=An (h 14 (by decide));exact AaW Oi (AaD (hr.keep hC) bn) ⟨Ad4 _,rfl⟩
  ·refine Af rfl fun σ w1 hC h=> ?_;have bo:=An (h 15 (by decide));exact Aaz (xv:=NI l.length) (yv:=NI 2) bo rfl rfl (JR _ _ _ (by omega) (by omega)) ⟨Ad4 _,rfl⟩
  ·refine Af rfl fun σ w1 hC h=> ?_;have bp:=An (h 13 (by decide));have bq:=An (h 16 (by decide));exact AcT Oi Td bp hr bq (by omega) fun v h _=>⟨Ad4 _,h⟩
  ·refine Af rfl fun σ w1 hC h=> ?_;have e1:σ 1 = .func (.func 100) #[] #[]:=(An (h 1 (by decide))).trans rfl;exact Aeb e1 ⟨Ad4 _,rfl⟩
  ·refine Af rfl fun σ w1 hC h=> ?_;have br:(fun x _=>RG 32 (Ae4) w x (l.take ((l.length)/(2)))) (σ 17) w1:=h 17 (by decide);have bs:=An (h 18 (by decide));refine AaA Ky rfl bs ((ih (l.take ((l.length)/(2))) (by have hlen_:=Ald (l.length/2) l;first | (simp only[Afi];omega) | (simp only[Afn];omega)) _ _ (RG.keep br hC)).mono ?_);rintro e w2 ⟨_,m,rfl,h1,h2,h3,h4⟩;exact⟨_,rfl,h4,m,AaR h1,h2,h3⟩
  ·refine Af rfl fun σ w1 hC h=> ?_;have s:σ 0=v:=(An (h 0 (by decide))).trans rfl;exact Aeb s ⟨Ad4 _,rfl⟩
  ·refine Af rfl fun σ w1 hC h=> ?_;have s:σ 0=v:=(An (h 0 (by decide))).trans rfl;exact Aeb s ⟨Ad4 _,rfl⟩
  ·refine Af rfl fun σ w1 hC h=> ?_;have bt:=An (h 21 (by decide));exact AaW Oi (AaD (hr.keep hC) bt) ⟨Ad4 _,rfl⟩
  ·refine Af rfl fun σ w1 hC h=> ?_;have bu:=An (h 22 (by decide));exact Aaz (xv:=NI l.length) (yv:=NI 2) bu rfl rfl (JR _ _ _ (by omega) (by omega)) ⟨Ad4 _,rfl⟩
  ·refine Af rfl fun σ w1 hC h=> ?_;have bv:=An (h 20 (by decide));have bw:=An (h 23 (by decide));exact Ab0 Oi Td bv hr bw (by omega) fun v h _=>⟨Ad4 _,h⟩
  ·refine Af rfl fun σ w1 hC h=> ?_;have e1:σ 1 = .func (.func 100) #[] #[]:=(An (h 1 (by decide))).trans rfl;exact Aeb e1 ⟨Ad4 _,rfl⟩
  ·refine Af rfl fun σ w1 hC h=> ?_;have bx:(fun x _=>RG 32 (Ae4) w x (l.drop ((l.length)/(2)))) (σ 24) w1:=h 24 (by decide);have bz:=An (h 25 (by decide));refine AaA Ky rfl bz ((ih (l.drop ((l.length)/(2))) (by have hlen_:=Ald (l.length/2) l;first | (simp only[Afi];omega) | (simp only[Afn];omega)) _ _ (RG.keep bx hC)).mono ?_);rintro e w2 ⟨_,m,rfl,h1,h2,h3,h4⟩;exact⟨_,rfl,h4,m,AaR h1,h2,h3⟩
  ·refine Af rfl fun σ w1 hC h=> ?_;have b0:(fun x w' =>∃m,RG 32 Ae4 w' x m/\m.Perm (l.take ((l.length)/(2)))/\Dj m) (σ 19) w1:=h 19 (by decide);exact Aek rfl ⟨Ad4 _,b0⟩
  ·refine Af rfl fun σ w1 hC h=> ?_;have b1:(fun x w' =>∃m,RG 32 Ae4 w' x m/\m.Perm (l.drop ((l.length)/(2)))/\Dj m) (σ 26) w1:=h 26 (by decide);exact Aek rfl ⟨Ad4 _,b1⟩
 intro aa g a4 he hf;obtain⟨-,-,-,-,-,-,-,-,-,-,-,-,-,-,k5,k6,-⟩:=hf;obtain⟨p,q,r,-⟩:=he.hold [(0,v),(1, .func (.func 100) #[] #[]),(4,(Afc none 0 0))] ⟨rfl,rfl,rfl,trivial⟩ rfl;clear he;have k5:(fun x w' =>∃m,RG 32 Ae4 w' x m/\m.Perm (l.take ((l.length)/(2)))/\Dj m) (aa 5) g:=k5;obtain⟨b2,i⟩:∃v,aa 5=v:=⟨_,rfl⟩;rw[i]at k5;have b3:=k5;clear k5;obtain⟨A,b4,b5,ha17⟩:=b3;have k6:(fun x w' =>∃m,RG 32 Ae4 w' x m/\m.Perm (l.drop ((l.length)/(2)))/\Dj m) (aa 6) g:=k6;obtain⟨b6,j⟩:∃v,aa 6=v:=⟨_,rfl⟩;rw[j]at k6;have b7:=k6;clear k6;obtain⟨B,b8,b9,ha22⟩:=b7;have hr:=hr.keep a4;refine gX (gS (AaW Oi (AaD hr p) ?_));have f:=Ad4 g;have hE:=hE.trans a4;have t:=hE.size;refine gS (AdF (enc:=Ae4) g.heap.size _ 32 Oi pk6_ig33.choose_spec.1 rfl rfl (by omega) (by omega) (Ae8 _) fun ca c4 a5 a6=> ?_);have hE:=hE.trans a6;have f:=f.trans a6;refine gL (fun(ρ:Ae) (wz:Ae3)=>∃va:Ae2,∃vb:Ae2,∃Al:List Bs,∃Bl:List Bs,∃Ol:List Bs,∃vo:Ae2,ρ 0=(v:Ae2)/\ρ 1=(.func (.func 100) #[] #[]:Ae2)/\ρ 4=((Afc none 0 0):Ae2)/\ρ 5=(va:Ae2)/\ρ 6=(vb:Ae2)/\ρ 7=(vo:Ae2)/\Ext w wz/\Ext g wz/\RG 32 Ae4 g va Al/\RG 32 Ae4 g vb Bl/\OG g.heap.size 33 32 (Ae4) wz vo Ol/\(MI l Ol Al Bl)/\True) (fun ρ _=>BO (ρ 5)+BO (ρ 6)) ⟨b2,b6,A,B,[],ca,p,q,r,i,j,rfl,hE,f,b4,b8,a5,AdH b5 b9 ha17 ha22,trivial⟩ ?_;clear a5;clear hE;rintro ab a7 ⟨va,vb,Al,Bl,Ol,vo,p,q,r,i,j,o,hE,f,hfa,hfb,hfo,hMI,-⟩;have q5:=i;have q6:=j;have qa:=hfa.sliceLen;have qb:=hfb.sliceLen;have hla:=hMI.perm.length_eq;simp only[Ae9]at hla;by_cases hga:0<Al.length
 ·by_cases hgb:0<Bl.length
  ·refine gS (AaW Oi (AaD (hfa.keep f) i) (gS (Aay (a:=(Al.length:Nat)) (b:=(0:Nat)) rfl rfl (Bj _ _ _ _) (kT (hga) (gS (AaW Oi (AaD (hfb.keep f) j) (gS (Aay (a:=(Bl.length:Nat)) (b:=(0:Nat)) rfl rfl (Bj _ _ _ _) (kT (hgb) (gS (AaS rfl rfl (cT rfl (Co [0,1,2,3,4,5,6,7,8] [7] [] fun c5 am=> ?_)))))))))))));have f:=f.trans am;have a8:(Ae4 (Al.getD (0) ([]:AlJ))).length=32:=(Aec (hfa.keep f) ([]:AlJ) (by omega));refine yA (AaZ Oi Td (by decide) ([]:AlJ) (AaD (hfa.keep f) i) rfl (by omega) fun c6 ac=>(ys (Aa4 (Aa6 ac rfl) XM rfl (by rw[a8];exact SY) zz) ?_));have a9:(Ae4 (Bl.getD (0) ([]:AlJ))).length=32:=(Aec (hfb.keep f) ([]:AlJ) (by omega));refine yA (AaZ Oi Td (by decide) ([]:AlJ) (AaD (hfb.keep f) j) rfl (by omega) fun c7 ad=>(ys (Aa4 (Aa6 ad rfl) XM rfl (by rw[a9];exact SY) zz) (yC (AbG Tf (caps:= #[]) q #[AB (Al.getD (0) ([]:AlJ)),AB (Bl.getD (0) ([]:AlJ))] (by simp only[AfI,AfG,AfQ,Ag1,Af4,Af6];exact congrArg Agp (E2 rfl rfl)) ((F6 _ (Al.getD (0) ([]:AlJ)) (Bl.getD (0) ([]:AlJ)) ((Ay (a8))) ((Ay (a9)))).mono ?_)))));rintro e c ⟨rfl,u⟩;refine⟨_,rfl,?_⟩;have ac:=Aej ac u;have ad:=Aej ad u;refine ys (Aay rfl rfl (Aab _ .i64 (Lib.compareBytes (Al.getD (0) ([]:AlJ)) (Bl.getD (0) ([]:AlJ)):Int) ((0:Nat):Int)) zz) ?_;clear ac;clear ad;refine cD rfl (fun an=> ?_) fun an=> ?_
   ·refine gR ?_;have hZ1:=am.trans u;have hfo:=hfo.keep hZ1;have cb:∀k,Afd vo=some k->g.heap.size<=k:=fun k hk=>(hfo.2.lt k hk).1;have f:=f.trans u;have hsz_:g.heap.size<=c.heap.size:=f.size;refine EI (Afd vo) [5] [0] (fun m=>if m=5 then [0,2,4]else []) (fun m=>if m=5 then [0,2,4,5,8]else []) [fun x w' =>Gl g.heap.size c.heap.size 33 32 (Ae4) (Afd vo) (Ol) x w',Is (va),fun x w' =>PR (Ae4 (Al.getD (0) ([]:AlJ))) x w',Is (AB (Al.getD (0) ([]:AlJ))),fun x w' =>RG 32 (Ae4) w' x ([(Al.getD (0) ([]:AlJ))]),fun x w' =>Gl g.heap.size c.heap.size 33 32 (Ae4) (Afd vo) ((Ol)++ [(Al.getD (0) ([]:AlJ))]) x w',Is (va),fun x _=>RG 32 (Ae4) g x (Al.drop (1)),fun x w' =>Gl g.heap.size c.heap.size 33 32 (Ae4) (Afd vo) ((Ol)++ [(Al.getD (0) ([]:AlJ))]) x w',fun x _=>RG 32 (Ae4) g x (Al.drop (1))] (by kernel_rfl) [47,48,49,50,51,52,53,54,7,5] (by kernel_rfl) (by kernel_rfl) (by kernel_rfl) (by kernel_rfl) (by kernel_rfl) rfl ⟨(fun _ _ _ h k=>⟨AeI h.1 k,h.2⟩),AaG _,(fun _ _ _ h k=>Aej h k),AaG _,(fun _ _ _ h k=>RG.keep h k),(fun _ _ _ h k=>⟨AeI h.1 k,h.2⟩),AaG _,(fun _ _ _ h _=>h),(fun _ _ _ h k=>⟨AeI h.1 k,h.2⟩),(fun _ _ _ h _=>h),trivial⟩ ⟨⟨.inl rfl, .inr (AaG _), .inl rfl, .inr (AaG _), .inl rfl, .inl rfl, .inr (AaG _), .inr ((fun _ _ _ h _=>h)), .inl rfl, .inr ((fun _ _ _ h _=>h)),trivial⟩,trivial⟩ ?cc ?hQ2007
    case cc=>
     refine⟨?_,?_,?_,?_,?_,?_,?_,?_,?_,?_,trivial⟩
     ·refine Af rfl fun σ w1 hC h=> ?_;have hX:Ext c w1:=hC;have hC:BX c.heap.size (Afd vo) c w1:=Abm hX (Ae8 _);have e7:=(An (h 7 (by decide))).trans o;exact Aeb e7 ⟨Ad4 _,AeI hfo hX,fun k hk=> .inl hk⟩
     ·refine Af rfl fun σ w1 hC h=> ?_;have hC:BX c.heap.size (Afd vo) c w1:=hC;have e5:=(An (h 5 (by decide))).trans i;exact Aeb e5 ⟨Ad4 _,rfl⟩
     ·refine Af rfl fun σ w1 hC h=> ?_;have hC:BX c.heap.size (Afd vo) c w1:=hC;have cd:=An (h 48 (by decide));exact AaZ Oi Td (by decide) ([]:AlJ) (AaD (hfa.keep (DW f hC (by omega) (fun k hk=>by have:=cb k hk;omega))) cd) (vr (NI 0) rfl) (by omega) fun v h=>⟨Ad4 _,h⟩
     ·refine Af rfl fun σ w1 hC h=> ?_;have hC:BX c.heap.size (Afd vo) c w1:=hC;have ce:(fun x w' =>PR (Ae4 (Al.getD (0) ([]:AlJ))) x w') (σ 49) w1:=h 49 (by decide);exact Aa4 ce XM rfl (by rw[Aec hfa ([]:AlJ) (by omega)];exact SY) ⟨Ad4 _,rfl⟩
     ·refine Af rfl fun σ w1 hC h=> ?_;have hC:BX c.heap.size (Afd vo) c w1:=hC;have cf:=An (h 50 (by decide));exact Abg (a:=(Al.getD (0) ([]:AlJ))) (enc:=Ae4) cf (by rw[Afl];exact(Ay (Aec hfa ([]:AlJ) (by omega)))) Ok fun v w2 h hx=>⟨hx,h⟩
     ·refine Af rfl fun σ w1 hC h=> ?_;have hC:BX c.heap.size (Afd vo) c w1:=hC;have aq:(fun x w' =>Gl g.heap.size c.heap.size 33 32 (Ae4) (Afd vo) (Ol) x w') (σ 47) w1:=h 47 (by decide);have cg:(fun x w' =>RG 32 (Ae4) w' x ([(Al.getD (0) ([]:AlJ))])) (σ 51) w1:=h 51 (by decide);exact Aa2 _ _ g.heap.size _ 32 Oi pk6_ig33.choose_spec.1 pk6_ig33.choose_spec.2 Oi (Ol) ([(Al.getD (0) ([]:AlJ))]) aq.1 cg (fun _ _=>Ag _) (by simp only[AfA,AfK];omega) (by simp only[AfA,AfK];omega) (Ae7 hsz_ hC.size) fun v w2 ho hg=>⟨Abn hg.by_ hC.size aq.2,ho,fun k hk=>(hg.fresh k hk).elim (aq.2 k) (fun x=> .inr (Ae7 hC.size x))⟩
     ·refine Af rfl fun σ w1 hC h=> ?_;have hC:BX c.heap.size (Afd vo) c w1:=hC;have e5:=(An (h 5 (by decide))).trans i;exact Aeb e5 ⟨Ad4 _,rfl⟩
     ·refine Af rfl fun σ w1 hC h=> ?_;have hC:BX c.heap.size (Afd vo) c w1:=hC;have ch:=An (h 53 (by decide));exact Ab0 Oi Td ch hfa (vr (NI 1) rfl) (by omega) fun v h _=>⟨Ad4 _,h⟩
     ·refine Af rfl fun σ w1 hC h=> ?_;have hC:BX c.heap.size (Afd vo) c w1:=hC;have ci:(fun x w' =>Gl g.heap.size c.heap.size 33 32 (Ae4) (Afd vo) ((Ol)++ [(Al.getD (0) ([]:AlJ))]) x w') (σ 52) w1:=h 52 (by decide);exact Aek rfl ⟨Ad4 _,ci⟩
     ·refine Af rfl fun σ w1 hC h=> ?_;have hC:BX c.heap.size (Afd vo) c w1:=hC;have cj:(fun x _=>RG 32 (Ae4) g x (Al.drop (1))) (σ 54) w1:=h 54 (by decide);exact Aek rfl ⟨Ad4 _,cj⟩
    intro y ar ck he hf;obtain⟨-,-,-,-,-,-,-,-,k7,k5,-⟩:=hf;obtain⟨p,q,r,j,cl,-⟩:=he.hold [(0,_),(1,_),(4,_),(6,_),(37, .bool (true))] ⟨p,q,r,j,rfl,trivial⟩ rfl;clear he;have k7:(fun x w' =>Gl g.heap.size c.heap.size 33 32 (Ae4) (Afd vo) ((Ol)++ [(Al.getD (0) ([]:AlJ))]) x w') (y 7) ar:=k7;obtain⟨ba,o⟩:∃v,y 7=v:=⟨_,rfl⟩;rw[o]at k7;have bb:Grew c ar vo ba:=⟨ck.grown,k7.2⟩;have cm:=k7.1;clear k7;have hE:=hE.trans hZ1;have hE:=As hE bb hfo.2 t;have f:=As f bb hfo.2 (Ae8 _);clear hfo;have k5:(fun x _=>RG 32 (Ae4) g x (Al.drop (1))) (y 5) ar:=k5;obtain⟨cn,i⟩:∃v,y 5=v:=⟨_,rfl⟩;rw[i]at k5;have bc:=k5;clear k5;refine gX (gK (AfF ⟨cn,vb,Al.drop (1),Bl,(Ol)++ [(Al.getD (0) ([]:AlJ))],ba,p,q,r,i,j,o,hE,f,bc,hfb,cm,hMI.left (by omega) (by omega) an,trivial⟩ ?_));show BO (y 5)+BO (y 6)<BO (ab 5)+BO (ab 6);rw[i,j,q5,q6];have n5:=bc.sliceLen;have n6:=hfb.sliceLen
    try rw[n5]
    try rw[n6]
    try rw[qa]
    try rw[qb]
    simp only[Afn];omega
   refine gR ?_;have hZ2:=am.trans u;have hfo:=hfo.keep hZ2;have co:∀k,Afd vo=some k->g.heap.size<=k:=fun k hk=>(hfo.2.lt k hk).1;have f:=f.trans u;have hsz_:g.heap.size<=c.heap.size:=f.size;refine EI (Afd vo) [5] [0] (fun m=>if m=5 then [0,2,4]else []) (fun m=>if m=5 then [0,2,4,5,8]else []) [fun x w' =>Gl g.heap.size c.heap.size 33 32 (Ae4) (Afd vo) (Ol) x w',Is (vb),fun x w' =>PR (Ae4 (Bl.getD (0) ([]:AlJ))) x w',Is (AB (Bl.getD (0) ([]:AlJ))),fun x w' =>RG 32 (Ae4) w' x ([(Bl.getD (0) ([]:AlJ))]),fun x w' =>Gl g.heap.size c.heap.size 33 32 (Ae4) (Afd vo) ((Ol)++ [(Bl.getD (0) ([]:AlJ))]) x w',Is (vb),fun x _=>RG 32 (Ae4) g x (Bl.drop (1)),fun x w' =>Gl g.heap.size c.heap.size 33 32 (Ae4) (Afd vo) ((Ol)++ [(Bl.getD (0) ([]:AlJ))]) x w',fun x _=>RG 32 (Ae4) g x (Bl.drop (1))] (by kernel_rfl) [55,56,57,58,59,60,61,62,7,6] (by kernel_rfl) (by kernel_rfl) (by kernel_rfl) (by kernel_rfl) (by kernel_rfl) rfl ⟨(fun _ _ _ h k=>⟨AeI h.1 k,h.2⟩),AaG _,(fun _ _ _ h k=>Aej h k),AaG _,(fun _ _ _ h k=>RG.keep h k),(fun _ _ _ h k=>⟨AeI h.1 k,h.2⟩),AaG _,(fun _ _ _ h _=>h),(fun _ _ _ h k=>⟨AeI h.1 k,h.2⟩),(fun _ _ _ h _=>h),trivial⟩ ⟨⟨.inl rfl, .inr (AaG _), .inl rfl, .inr (AaG _), .inl rfl, .inl rfl, .inr (AaG _), .inr ((fun _ _ _ h _=>h)), .inl rfl, .inr ((fun _ _ _ h _=>h)),trivial⟩,trivial⟩ ?cp ?hQ3008
   case cp=>
    refine⟨?_,?_,?_,?_,?_,?_,?_,?_,?_,?_,trivial⟩
    ·refine Af rfl fun σ w1 hC h=> ?_;have hX:Ext c w1:=hC;have hC:BX c.heap.size (Afd vo) c w1:=Abm hX (Ae8 _);have e7:=(An (h 7 (by decide))).trans o;exact Aeb e7 ⟨Ad4 _,AeI hfo hX,fun k hk=> .inl hk⟩
    ·refine Af rfl fun σ w1 hC h=> ?_;have hC:BX c.heap.size (Afd vo) c w1:=hC;have e6:=(An (h 6 (by decide))).trans j;exact Aeb e6 ⟨Ad4 _,rfl⟩
    ·refine Af rfl fun σ w1 hC h=> ?_;have hC:BX c.heap.size (Afd vo) c w1:=hC;have cq:=An (h 56 (by decide));exact AaZ Oi Td (by decide) ([]:AlJ) (AaD (hfb.keep (DW f hC (by omega) (fun k hk=>by have:=co k hk;omega))) cq) (vr (NI 0) rfl) (by omega) fun v h=>⟨Ad4 _,h⟩
    ·refine Af rfl fun σ w1 hC h=> ?_;have hC:BX c.heap.size (Afd vo) c w1:=hC;have cr:(fun x w' =>PR (Ae4 (Bl.getD (0) ([]:AlJ))) x w') (σ 57) w1:=h 57 (by decide);exact Aa4 cr XM rfl (by rw[Aec hfb ([]:AlJ) (by omega)];exact SY) ⟨Ad4 _,rfl⟩
    ·refine Af rfl fun σ w1 hC h=> ?_;have hC:BX c.heap.size (Afd vo) c w1:=hC;have cs:=An (h 58 (by decide));exact Abg (a:=(Bl.getD (0) ([]:AlJ))) (enc:=Ae4) cs (by rw[Afl];exact(Ay (Aec hfb ([]:AlJ) (by omega)))) Ok fun v w2 h hx=>⟨hx,h⟩
    ·refine Af rfl fun σ w1 hC h=> ?_;have hC:BX c.heap.size (Afd vo) c w1:=hC;have ax:(fun x w' =>Gl g.heap.size c.heap.size 33 32 (Ae4) (Afd vo) (Ol) x w') (σ 55) w1:=h 55 (by decide);have ct:(fun x w' =>RG 32 (Ae4) w' x ([(Bl.getD (0) ([]:AlJ))])) (σ 59) w1:=h 59 (by decide);exact Aa2 _ _ g.heap.size _ 32 Oi pk6_ig33.choose_spec.1 pk6_ig33.choose_spec.2 Oi (Ol) ([(Bl.getD (0) ([]:AlJ))]) ax.1 ct (fun _ _=>Ag _) (by simp only[AfA,AfK];omega) (by simp only[AfA,AfK];omega) (Ae7 hsz_ hC.size) fun v w2 ho hg=>⟨Abn hg.by_ hC.size ax.2,ho,fun k hk=>(hg.fresh k hk).elim (ax.2 k) (fun x=> .inr (Ae7 hC.size x))⟩
    ·refine Af rfl fun σ w1 hC h=> ?_;have hC:BX c.heap.size (Afd vo) c w1:=hC;have e6:=(An (h 6 (by decide))).trans j;exact Aeb e6 ⟨Ad4 _,rfl⟩
    ·refine Af rfl fun σ w1 hC h=> ?_;have hC:BX c.heap.size (Afd vo) c w1:=hC;have cu:=An (h 61 (by decide));exact Ab0 Oi Td cu hfb (vr (NI 1) rfl) (by omega) fun v h _=>⟨Ad4 _,h⟩
    ·refine Af rfl fun σ w1 hC h=> ?_;have hC:BX c.heap.size (Afd vo) c w1:=hC;have cv:(fun x w' =>Gl g.heap.size c.heap.size 33 32 (Ae4) (Afd vo) ((Ol)++ [(Bl.getD (0) ([]:AlJ))]) x w') (σ 60) w1:=h 60 (by decide);exact Aek rfl ⟨Ad4 _,cv⟩
    ·refine Af rfl fun σ w1 hC h=> ?_;have hC:BX c.heap.size (Afd vo) c w1:=hC;have cw:(fun x _=>RG 32 (Ae4) g x (Bl.drop (1))) (σ 62) w1:=h 62 (by decide);exact Aek rfl ⟨Ad4 _,cw⟩
   intro z ay cx he hf;obtain⟨-,-,-,-,-,-,-,-,k7,k6,-⟩:=hf;obtain⟨p,q,r,i,cl,-⟩:=he.hold [(0,_),(1,_),(4,_),(5,_),(37, .bool (true))] ⟨p,q,r,i,rfl,trivial⟩ rfl;clear he;have k7:(fun x w' =>Gl g.heap.size c.heap.size 33 32 (Ae4) (Afd vo) ((Ol)++ [(Bl.getD (0) ([]:AlJ))]) x w') (z 7) ay:=k7;obtain⟨bd,o⟩:∃v,z 7=v:=⟨_,rfl⟩;rw[o]at k7;have be:Grew c ay vo bd:=⟨cx.grown,k7.2⟩;have cy:=k7.1;clear k7;have hE:=hE.trans hZ2;have hE:=As hE be hfo.2 t;have f:=As f be hfo.2 (Ae8 _);clear hfo;have k6:(fun x _=>RG 32 (Ae4) g x (Bl.drop (1))) (z 6) ay:=k6;obtain⟨cz,j⟩:∃v,z 6=v:=⟨_,rfl⟩;rw[j]at k6;have bf:=k6;clear k6;refine gX (gK (AfF ⟨va,cz,Al,Bl.drop (1),(Ol)++ [(Bl.getD (0) ([]:AlJ))],bd,p,q,r,i,j,o,hE,f,hfa,bf,cy,hMI.right (by omega) (by omega) an,trivial⟩ ?_));show BO (z 5)+BO (z 6)<BO (ab 5)+BO (ab 6);rw[i,j,q5,q6];have n5:=hfa.sliceLen;have n6:=bf.sliceLen
   try rw[n5]
   try rw[n6]
   try rw[qa]
   try rw[qb]
   simp only[Afn];omega
  refine gS (AaW Oi (AaD (hfa.keep f) i) (gS (Aay (a:=(Al.length:Nat)) (b:=(0:Nat)) rfl rfl (Bj _ _ _ _) (kT (hga) (gS (AaW Oi (AaD (hfb.keep f) j) (gS (Aay (a:=(Bl.length:Nat)) (b:=(0:Nat)) rfl rfl (Bj _ _ _ _) (kF (hgb) (gS (AaS rfl rfl (cF rfl (gS (Aa2 _ _ g.heap.size _ 32 Oi pk6_ig33.choose_spec.1 pk6_ig33.choose_spec.2 Oi (Ol) (Al) (Aen hfo o) (AaD (hfa.keep f) i) (fun _ _=>Ag _) (by omega) (by omega) f.size fun az bg ae af=> ?_))))))))))))));have af:Grew a7 bg vo az:= .eqv o af;have hE:=As hE af hfo.2 t;have f:=As f af hfo.2 (Ae8 _);clear hfo;refine gS (Aa2 _ _ g.heap.size _ 32 Oi pk6_ig33.choose_spec.1 pk6_ig33.choose_spec.2 Oi ((Ol)++Al) (Bl) (Aen ae (vr az rfl)) (AaD (hfb.keep f) j) (fun _ _=>Ag _) (by simp only[Ae9];omega) (by simp only[Ae9];omega) f.size fun bh c0 c1 ag=> ?_);have ag:Grew bg c0 az bh:=ag;have hE:=As hE ag ae.2 t;have f:=As f ag ae.2 (Ae8 _);clear ae;refine A8 rfl (vr bh rfl) ?_;obtain⟨hpm,hasc⟩:=hMI.done (by omega);exact⟨_,_,rfl,OG.base c1 (by omega),hpm,hasc,hE⟩
 refine gS (AaW Oi (AaD (hfa.keep f) i) (gS (Aay (a:=(Al.length:Nat)) (b:=(0:Nat)) rfl rfl (Bj _ _ _ _) (kF (hga) (gS (AaX rfl rfl (cF rfl (gS (Aa2 _ _ g.heap.size _ 32 Oi pk6_ig33.choose_spec.1 pk6_ig33.choose_spec.2 Oi (Ol) (Al) (Aen hfo o) (AaD (hfa.keep f) i) (fun _ _=>Ag _) (by omega) (by omega) f.size fun a0 bi ah ai=> ?_)))))))));have ai:Grew a7 bi vo a0:= .eqv o ai;have hE:=As hE ai hfo.2 t;have f:=As f ai hfo.2 (Ae8 _);clear hfo;refine gS (Aa2 _ _ g.heap.size _ 32 Oi pk6_ig33.choose_spec.1 pk6_ig33.choose_spec.2 Oi ((Ol)++Al) (Bl) (Aen ah (vr a0 rfl)) (AaD (hfb.keep f) j) (fun _ _=>Ag _) (by simp only[Ae9];omega) (by simp only[Ae9];omega) f.size fun bj c2 c3 aj=> ?_);have aj:Grew bi c2 a0 bj:=aj;have hE:=As hE aj ah.2 t;have f:=As f aj ah.2 (Ae8 _);clear ah;refine A8 rfl (vr bj rfl) ?_;obtain⟨hpm,hasc⟩:=hMI.done (by omega);exact⟨_,_,rfl,OG.base c3 (by omega),hpm,hasc,hE⟩
theorem Th:∀(n:Nat) (l:List Bs),l.length=n->l.length<=1048576->∀(w:Ae3) (v:Ae2),RG 32 Ae4 w v l->Calls Ae5 99 #[v, .func (.func 100) #[] #[]] w fun e w' =>∃v' m,e = .returned v' /\OG w.heap.size 33 32 Ae4 w' v' m/\m.Perm l/\Dj m/\Ext w w' :=by
 intro n
 induction n using Nat.strongRecOn with
 | _ n ih=>exact fun l hn hlim w v hr=>Rr n (fun l' hl w v hr=>ih l'.length hl l' rfl (by omega) w v hr) l hn hlim w v hr
theorem Om(w:Ae3)(v:Ae2)(l:List Bs)(hlim:l.length<=1048576)(hr:RG 32 Ae4 w v l):
  Calls Ae5 55 #[v] w fun e w' =>∃v',e = .returned v' /\OG w.heap.size 33 32 Ae4 w' v' (AR l)/\Ext w w' :=by
 refine gG (args:= [v]) Tryz.func55 rfl 5 rfl rfl ?_;have hE:=Ad4 w;refine gS (AaA Ky rfl rfl ((Th _ l rfl hlim _ v hr).mono ?_));rintro e g ⟨a,m4,rfl,b,c,ha7,f⟩;refine⟨_,rfl,?_⟩;have hms:=S2 ha7 c;subst hms;refine A8 rfl (vr a rfl) ?_;have hE:=hE.trans f;exact⟨_,rfl,b,hE⟩
theorem Rs(w:Ae3)(va vb:Ae2)(a b:AlJ)(hra:RB w va a)(hrb:RB w vb b)(hal:a.length<=4611686018427387904):
  Calls Ae5 183 #[va,vb] w fun e w' =>e = .returned (NI (C1 a b))/\Ext w w' :=by
 refine gG (args:= [va,vb]) Tryz.func183 rfl 30 rfl rfl ?_;have hE:=Ad4 w;refine gL (fun(ρ:Ae) (wz:Ae3)=>∃i:Nat,ρ 0=(va:Ae2)/\ρ 1=(vb:Ae2)/\ρ 4=(NI 0:Ae2)/\ρ 5=(NI i:Ae2)/\Ext w wz/\(i<=a.length)/\(i<=b.length)/\(C1 a b=i+C1 (a.drop i) (b.drop i))/\True) (fun ρ _=>a.length-(intOf (ρ 5)).toNat) ⟨0,rfl,rfl,rfl,rfl,hE,AfC _,AfC _,by simp,trivial⟩ ?_;clear hE;rintro p v ⟨i,f,g,q,c,hE,hia,hib,hlc,-⟩;have q5:=c;by_cases h1:i<a.length
 ·by_cases h2:i<b.length
  ·by_cases h3:a.getD i 0=b.getD i 0
   ·refine Co [0,1,2,3,4,5,6,7,8,9,10,11,12,13,14,15,16,17,18,19,20] [] [] fun x r=> ?_;have hE:=hE.trans r;refine ys (AaT GR (AaF (hra.keep hE) f) zz) (ys (Aay (a:=(i:Nat)) (b:=(a.length:Nat)) c rfl (AE _ _ _ _) zz) (kT (h1) (ys (AaT GR (AaF (hrb.keep hE) g) zz) (ys (Aay (a:=(i:Nat)) (b:=(b.length:Nat)) c rfl (AE _ _ _ _) zz) (kT (h2) (ys (AaS rfl rfl zz) (yA (Aba (l:=a) (i:=i) GR Rg (AaF (hra.keep hE) f) c (h1) fun y k=>(ys (AaY u5 rfl (Aa7 k rfl) zz) (yA (Aba (l:=b) (i:=i) GR Rg (AaF (hrb.keep hE) g) c (h2) fun z m=>(ys (AaY u5 rfl (Aa7 m rfl) zz) (ys (Aay (a:=((a.getD (i) 0).toNat:Nat)) (b:=((b.getD (i) 0).toNat:Nat)) rfl rfl (AH _ _ _ _) zz) (kT (congrArg UInt8.toNat h3) (ys (AaS rfl rfl zz) ?_)))))))))))))));clear k;clear m;refine cT rfl (gS (Aaz (xv:=NI i) (yv:=NI 1) c rfl rfl (Ah _ _ _ (by omega)) (gK (AfF ⟨i+1,f,g,q,rfl,hE,by omega,by omega,by rw[hlc,Vu h1 h2 h3];omega,trivial⟩ ?_))));show a.length-(intOf (NI ((i)+(1)))).toNat<a.length-(intOf (p 5)).toNat;rw[q5];simp only[intOf,Afg];omega
   have j:=Zx h1 h2 h3;refine Co [0,1,2,3,4,5,6,7,8,9,10,11,12,13,14,15,16,17,18,19,20] [] [] fun aa s=> ?_;have hE:=hE.trans s;refine ys (AaT GR (AaF (hra.keep hE) f) zz) (ys (Aay (a:=(i:Nat)) (b:=(a.length:Nat)) c rfl (AE _ _ _ _) zz) (kT (h1) (ys (AaT GR (AaF (hrb.keep hE) g) zz) (ys (Aay (a:=(i:Nat)) (b:=(b.length:Nat)) c rfl (AE _ _ _ _) zz) (kT (h2) (ys (AaS rfl rfl zz) (yA (Aba (l:=a) (i:=i) GR Rg (AaF (hra.keep hE) f) c (h1) fun ab n=>(ys (AaY u5 rfl (Aa7 n rfl) zz) (yA (Aba (l:=b) (i:=i) GR Rg (AaF (hrb.keep hE) g) c (h2) fun ac o=>(ys (AaY u5 rfl (Aa7 o rfl) zz) (ys (Aay (a:=((a.getD (i) 0).toNat:Nat)) (b:=((b.getD (i) 0).toNat:Nat)) rfl rfl (AH _ _ _ _) zz) (kF (fun h=>h3 (UInt8.toNat_inj.1 h)) (ys (AaS rfl rfl zz) ?_)))))))))))))));clear n;clear o;refine cF rfl (A8 rfl c ?_);rw[hlc,j];exact⟨rfl,hE⟩
  have j:=Vw (a:=a) (i:=i) (b:=b) (by omega);refine Co [0,1,2,3,4,5,6,7,8,9,10,11,12,13,14,15,16,17,18,19,20] [] [] fun ad t=> ?_;have hE:=hE.trans t;refine ys (AaT GR (AaF (hra.keep hE) f) zz) (ys (Aay (a:=(i:Nat)) (b:=(a.length:Nat)) c rfl (AE _ _ _ _) zz) (kT (h1) (ys (AaT GR (AaF (hrb.keep hE) g) zz) (ys (Aay (a:=(i:Nat)) (b:=(b.length:Nat)) c rfl (AE _ _ _ _) zz) (kF (by omega) (ys (AaS rfl rfl zz) (ys (AaX rfl rfl zz) (cF rfl (A8 rfl c ?_)))))))));rw[hlc,j];exact⟨rfl,hE⟩
 have j:=Vv (a:=a) (i:=i) (b:=b) (by omega);refine Co [0,1,2,3,4,5,6,7,8,9,10,11,12,13,14,15,16,17,18,19,20] [] [] fun ae u=> ?_;have hE:=hE.trans u;refine ys (AaT GR (AaF (hra.keep hE) f) zz) (ys (Aay (a:=(i:Nat)) (b:=(a.length:Nat)) c rfl (AE _ _ _ _) zz) (kF (by omega) (ys (AaX rfl rfl zz) (ys (AaX rfl rfl zz) (cF rfl (A8 rfl c ?_))))));rw[hlc,j];exact⟨rfl,hE⟩
open Go.WideMaps (KeyLaw)
structure IX (w0 w : Ae3) (b base : Nat) (I : Afa) (G : AlJ -> List Nat) : Prop where
 ext:Ext w0 w
 lo:w0.heap.size<=b
 hb:base<=w.heap.size
 idx:IdxAt w b base I G
structure IXO (w0 w : Ae3) (b base : Nat) (I : Afa) (G : AlJ -> List Nat) (r : AlJ) (v : Ae2) (zs : List Nat) (st : Nat) : Prop where
 ext:Ext w0 w
 lo:w0.heap.size<=b
 hb:base<=w.heap.size
 opn:IdxOpen w b base I G r v zs st
section
variable {P : Program} {K : Ae2 -> Ae3 -> Prop} {ρ : Ae} {w w' : Ae3} {d : Option Tmp} {ty : Afa} {pos : String} {af : Array Edge} {gd : Option (Nat × Bool)}
variable {w0 : Ae3} {b base : Nat} {I : Afa} {G : AlJ -> List Nat} {r : AlJ} {v : Ae2} {zs : List Nat} {st : Nat}
theorem IX.keep(h:IX w0 w b base I G)(k:Ext w w'):IX w0 w' b base I G:=⟨h.ext.trans k,h.lo,Ae7 h.hb k.size,h.idx.keep k⟩
theorem Yk.makeMap{t:Afa}(hk:∀b w',w.heap.size=b->IX w w' b (b+1) I (fun _=> [])->K (.map (some b)) w'):Yk P K ((execOp (Aa ρ) ⟨d, .makeMap t none,ty,pos,af,gd⟩).run P w):=by
 refine Aea (v:= .map (some w.heap.size)) (w' :=w.alloc (.map #[] 0)) ?_ (hk _ _ rfl ⟨(Below.refl _ _).alloc (Ae8 _) _,Ae8 _,by simp,Ac9 w⟩);unfold execOp;simp only[Option.map_none,Afm,run_makeMap,Afe,Afo]
theorem Yk.entry{t Kt E:Afa}(L:KeyLaw P Kt)(hkr:∀r:AlJ,r.length=8->∃l,keyOf P Kt (rk r)=some l)(ht:P.underlying t=some (.map Kt E))(hz:∀u:Ae3,(zeroValue E).run P u = .ok (.slice none 0 0) u){x y:Aff} 
  (hm:Aa ρ x = .map (some b)) (hy:Aa ρ y=rk r) (h:IX w0 w b base I G) (hr:r.length=8) (hk:∀v st w1,IXO w0 w1 b base I G r v (G r) st->w.grownBy w1 (some b)->K (.tuple #[v,NI st]) w1):
  Yk P K ((execOp (Aa ρ) ⟨d, .mapEntry t x y,ty,pos,af,gd⟩).run P w):=by
 obtain⟨v,st,w1,hrun,hg,hs,ho⟩:=h.idx.entry L hkr ht hz hr;refine Aea (v:= .tuple #[v,NI st]) (w' :=w1) ?_ (hk v st w1 ⟨Below.grown h.ext hg h.ext.size (fun k hk=>by cases hk;exact h.lo),h.lo,by rw[hs];exact h.hb,ho⟩ hg);unfold execOp;simp only[hm,hy,Afm,hrun,Afe,Afo];rfl
theorem Yk.entryStore{t:Afa}{x s y:Aff}(hm:Aa ρ x = .map (some b))(hs:Aa ρ s=NI st)(hy:Aa ρ y=v)(h:IXO w0 w b base I G r v zs st)(hne:zs≠ [])(hk:∀w1,IX w0 w1 b base I (updG G r zs)->K undef w1):
  Yk P K ((execOp (Aa ρ) ⟨d, .entryStore t x s y,ty,pos,af,gd⟩).run P w):=by
 obtain⟨w1,hrun,hg,hsz,ho⟩:=h.opn.store (P:=P) (t:=t) hne;have hrun' :(Instr.entryStore t (.map (some b)) (NI st) v).run P w = .ok () w1:=hrun;have hK:=hk w1 ⟨Below.grown h.ext hg h.ext.size (fun k hk=>by cases hk;exact h.lo),h.lo,by rw[hsz];exact h.hb,ho⟩;unfold execOp;simp only[hm,hs,hy,Afm,hrun',Afe,Afo];exact hK
theorem IXO.own(h:IXO w0 w b base I G r v zs st):w.ownsRow base I 1 v zs.length (zs.map NI):=h.opn.2.2.1
theorem IXO.grew{v' :Ae2}{zs' :List Nat}(h:IXO w0 w b base I G r v zs st)(gr:Grew w w' v v')(ho:w'.ownsRow base I 1 v' zs'.length (zs'.map NI)):IXO w0 w' b base I G r v' zs' st:=
 ⟨Below.grown h.ext gr.by_ h.ext.size (fun k hk=>Ae7 h.lo (Ae7 (Nat.le_of_lt h.opn.1) (h.own.lt k hk).1)),h.lo,Ae7 h.hb gr.by_.size,h.opn.grew gr ho⟩
theorem AcI{t e:Afa}{n:Nat}(ht:P.underlying t=some (.array n e)){x:Aff}{l:AlJ}(h:RB w (Aa ρ x) l)(hl:l.length=n)(hn:0<n)(hk:∀g o,w.rangeAt g o (Ae4 l)->K (.pointer (some ⟨g,o,none⟩)) w):
  Yk P K ((execOp (Aa ρ) ⟨d, .sliceToArrayPointer t x,ty,pos,af,gd⟩).run P w):=by
 obtain⟨g,o,cap,hv,h1,h2,h3,h4⟩:=h.open_ (by omega);refine Aea (v:= .pointer (some ⟨g,o,none⟩)) (w' :=w) ?_ (hk g o fun j v hj=> ?_)
 ·unfold execOp;simp only[hv,Instr.arrayAt,Afm,run_underlying ht,Afe];rw[if_neg (by omega)];rfl
 ·have hj' :j<l.length:=by simpa [Ae4] using (List.getElem?_eq_some_iff.1 hj).1
  rw[h4 j hj',<-hj];simp[Ae4,hj',List.getD]
theorem Yk.look{t Kt E:Afa}(L:KeyLaw P Kt)(hkr:∀r:AlJ,r.length=8->∃l,keyOf P Kt (rk r)=some l)(ht:P.underlying t=some (.map Kt E))(hz:∀u:Ae3,(zeroValue E).run P u = .ok (.slice none 0 0) u){x y:Aff} 
  (hm:Aa ρ x = .map (some b)) (hy:Aa ρ y=rk r) (h:IdxAt w b base I G) (hr:r.length=8) (hk:∀v,w.ownsRow base I 1 v (G r).length ((G r).map NI)->K v w):
  Yk P K ((execOp (Aa ρ) ⟨d, .lookup t x y false,ty,pos,af,gd⟩).run P w):=by
 obtain⟨v,hrun,ho⟩:=h.look L hkr ht hz hr;refine Aea (v:=v) (w' :=w) ?_ (hk v ho);unfold execOp;simp only[hm,hy,Afm,hrun,Afe,Afo]
end
def posOf(l:AlJ)(k:Nat)(r:AlJ):List Nat:=(List.range k).filter fun j=>(l.drop j).take 8==r
theorem Ti(l:AlJ)(k:Nat):updG (posOf l k) ((l.drop k).take 8) (posOf l k ((l.drop k).take 8)++ [k])=posOf l (k+1):=by
 funext s
 unfold updG posOf;rw[List.range_succ,List.filter_append];by_cases h:s=(l.drop k).take 8
 ·subst h;rw[if_pos rfl];simp
 ·rw[if_neg h];have:((l.drop k).take 8==s)=false:=by simpa using fun e=>h e.symm
  simp[this]
theorem Rt(l:AlJ):posOf l 0=fun _=> []:=by
 funext s
 rfl
theorem posOf_length(l:AlJ)(k:Nat)(r:AlJ):(posOf l k r).length<=k:=by
 have:=List.length_filter_le (fun j=>(l.drop j).take 8==r) (List.range k);rw[List.length_range]at this;exact this
theorem Tj:KeyLaw Ae5 273:=deep_law_laid (by kernel_rfl) (m:=3) (by decide) (of_decide_eq_true (by kernel_rfl)) (by kernel_rfl) (by kernel_rfl)
theorem Tk:∀r:AlJ,r.length=8->∃l,keyOf Ae5 273 (rk r)=some l:=fun _ h=>
 MH (n:=8) (e:=5) Tryz.underlying273 AiI (by kernel_rfl) (by kernel_rfl) (by kernel_rfl) (of_decide_eq_true (by kernel_rfl)) h
theorem Oo:∀u:Ae3,(zeroValue 22).run Ae5 u = .ok (.slice none 0 0) u:=fun _=>by kernel_rfl
theorem Aae:(Tryz.prog.info? 3).map (fun i=>(i.zero,i.size,i.bytes))=some (some (.int .i64 0),1,8):=by kernel_rfl
theorem HA:(Tryz.prog.info? 273).map (·.size)=some 8:=by kernel_rfl
theorem Ii:Tryz.prog.underlying 273=some (.array 8 5):=by kernel_rfl
theorem Ru{d:Option Tmp}{ty:Afa}{pos:String}{af:Array Edge}{gd:Option (Nat × Bool)}(σ:Aff->Ae2)(w:Ae3):(execOp σ ⟨d, .alloc 273,ty,pos,af,gd⟩).run Ae5 w = .ok (.value (PQ w.heap.size 0)) (w.alloc (.cells (Ae4 (Afk 8 0)).toArray 273)):=by kernel_rfl
theorem Rv(z:Int)(w:Ae3):(AfM 22 1 #[(0, .int .i64 z)]).run Ae5 w = .ok (.slice (some ⟨w.heap.size,0,none⟩) 1 1) (w.alloc (.cells #[.int .i64 z] 3)):=by kernel_rfl
theorem AdU{P:Program}{K:Ae2->Ae3->Prop}{ρ:Ae}{w:Ae3}{d:Option Tmp}{ty:Afa}{pos:String}{af:Array Edge}{gd:Option (Nat × Bool)}{t e:Afa}{x:Aff}{z:Nat}(hx:Aa ρ x=NI z)(hr:∀w:Ae3,(AfM t 1 #[(0, .int .i64 z)]).run P w = .ok (.slice (some ⟨w.heap.size,0,none⟩) 1 1) (w.alloc (.cells #[.int .i64 z] e)))(hk:∀b w',w.heap.size=b->w'.heap[b]? =some (.cells #[.int .i64 z] e (0,0))->Ext w w' ->w'.heap.size=b+1->K (.slice (some ⟨b,0,none⟩) 1 1) w'):Yk P K ((execOp (Aa ρ) ⟨d, .buildSlice t 1 #[(0,x)],ty,pos,af,gd⟩).run P w):=AdQ (cs:= #[.int .i64 z]) (fun w=>(by simp only[AfI,AfG,AfQ,hx]:_=_).trans (hr w)) hk
theorem Rw:Tryz.prog.underlying 270=some (.map 273 22):=by kernel_rfl
theorem ML:Tryz.prog.underlying 22=some (.slice 3):=by kernel_rfl
theorem Tl(w:Ae3)(v:Ae2)(l:AlJ)(hr:RB w v l)(hl:l.length<=1048576):
  Calls Ae5 181 #[v] w fun e w' =>∃b base,e = .returned (.map (some b))/\IX w w' b base 3 (posOf l (l.length-7)):=by
 refine gG (args:= [v]) Tryz.func181 rfl 30 rfl rfl ?_;have hE:=Ad4 w;refine gS (Yk.makeMap (I:=3) fun h w4 an hX6=> ?_);have hX6:=(Rt l)▸hX6;have hE:=hX6.ext;refine gL (fun(ρ:Ae) (wz:Ae3)=>∃i:Nat,ρ 0=(v:Ae2)/\ρ 2=((Value.map none):Ae2)/\ρ 3=(.map (some h):Ae2)/\ρ 4=(NI i:Ae2)/\Ext w wz/\IX w wz h (h+1) 3 (posOf l i)/\(i<=l.length-7)/\True) (fun ρ _=>l.length-(intOf (ρ 4)).toNat) ⟨0,rfl,rfl,rfl,rfl,hE,hX6,AfC _,trivial⟩ ?_;clear hX6;clear hE;rintro x y ⟨i,m,T2,k,g,hE,hXi,hil,-⟩;have q4:=g;refine gS (Aaz (xv:=NI i) (yv:=NI 8) g rfl rfl (Ah _ _ _ (by omega)) (gS (AaT GR (AaF (hr.keep hE) m) (gS (Aay (a:=((i)+(8):Nat)) (b:=(l.length:Nat)) rfl rfl (DR _ _ _ _) ?_)))));refine cD rfl (fun h8=> ?_) fun h8=> ?_
 ·have hrl:((l.drop i).take (i+8-i)).length=8:=by rw[Afi,Afn];omega
  have hrl8:((l.drop i).take 8).length=8:=by rw[Afi,Afn];omega
  refine gS (Aaz (xv:=NI i) (yv:=NI 8) g rfl rfl (Ah _ _ _ (by omega)) (gS (AbJ (xs:=l) (l:=i) (n:=(i)+(8)) GR Rg m (hr.keep hE) g rfl (by omega) (by omega) fun ao ab ha17=>(gS (AcI Ii (AaF ab rfl) (l:=(l.drop (i)).take (((i)+(8))-(i))) (n:=8) (by rw[Afi,Afn];omega) (by decide) fun ap aq ac=>(gS (Abi rfl ac Ii rfl (by rw[Afl,hrl];exact HA) (gS (Ad9 Ru fun o ad ar r ae au=> ?_)))))))));have c:=Ad4 y;have av:=hE.size;have f:=r;clear r;have aw:o<ad.heap.size:=by omega
  refine gS (AaB (vr (PQ o 0) rfl) (vr (AB ((l.drop (i)).take (((i)+(8))-(i)))) rfl) f (by simp only[Afr,Afl,hrl];rfl) (by simp only[Afr,Afl,hrl];exact HA) (Ag _) fun af s ag ax=> ?_);clear f;have f:=s;clear s;have ay:=bl f;have f:af.heap[o]? =some (.cells (Ae4 ((l.drop i).take 8)).toArray 273 (0,0)):=A5 f (by rw[show i+8-i=8 by omega]);refine gS (AaC rfl f Ii rfl (by simp only[Afr,Afl,hrl8];exact HA) (gS (AdU (z:=i) g (fun w=>Rv _ w) fun p az a0 ah ai a1=> ?_)));have hb1i:=ah;have c:=c.trans ae;have c:=Ab c ag (Ae7 (Ae8 _) (by omega));have c:=c.trans ai;refine gS (Yk.entry Tj Tk Rw Oo k rfl (hXi.keep c) hrl8 fun q t a2 hX46 aj=> ?_);have hE:=hE.trans c;have hE:=hX46.ext;clear f;have hb1i:=(Eq.trans (aj.block p (bl hb1i) (by have h1:=hXi.idx.lt;simp;omega)) hb1i);refine gS (Ad5 (vs:= [q,NI t]) rfl rfl (gS (Yk.append _ _ (h+1) 3 (.int .i64 0) 1 8 ML Aae rfl (posOf l i ((l.drop i).take 8)).length ((posOf l i ((l.drop i).take 8)).map NI) (Dd hX46.own (vr q rfl)) 1 [NI i] (show Src _ _ _ _ _ _ _ from by rw[(vr (.slice (some ⟨p,0,none⟩) 1 1) rfl)];exact(Src.ofSlice _ ML ⟨p,0,none⟩ 1 1 [NI i] rfl (fun j u hu=>by rw[Addr.add_lit,Agt];exact cellAt (l:= [NI i]) hb1i hu) (fun u hu=>by rw[Afh.1 hu];rfl))) (by have:=posOf_length l i ((l.drop i).take 8);unfold maxLen;omega) (by have:=posOf_length l i ((l.drop i).take 8);omega) hX46.hb fun a3 a4 ak al=> ?_)));have hX52:=IXO.grew (zs' :=posOf l i ((l.drop i).take 8)++ [i]) hX46 al (by rw[Ae9,List.map_append];exact ak);have hE:=hX52.ext;clear hX46;refine gS (Ad5 (vs:= [q,NI t]) rfl rfl (gS (Yk.entryStore k rfl rfl hX52 (by simp) fun a5 hX54=> ?_)));have hX54:=(Ti l i)▸hX54;have hE:=hX54.ext;clear hX52;refine gS (Aaz (xv:=NI i) (yv:=NI 1) g rfl rfl (Ah _ _ _ (by omega)) (gK (AfF ⟨i+1,m,T2,k,rfl,hE,hX54,by omega,trivial⟩ ?_)));show l.length-(intOf (NI ((i)+(1)))).toNat<l.length-(intOf (x 4)).toNat;rw[q4];simp only[intOf,Afg];omega
 have hik:i=l.length-7:=by omega
 refine A8 rfl k ?_;rw[hik]at hXi;exact⟨_,_,rfl,hXi⟩
structure MKD (w0 wI w : Ae3) (lo g3 g5 g7 : Nat) (vt vc v : Ae2) (o : AlJ) (fr : Nat) : Prop where
 ext:Ext w0 w
 b3:w.heap[g3]? =some (.cells #[vt] 27 (0,0))
 b5:w.heap[g5]? =some (.cells #[vc] 27 (0,0))
 b7:w.heap[g7]? =some (.cells #[NI fr] 3 (0,0))
 own:w.ownsRow w0.heap.size 5 1 v o.length (Ae4 o)
 fz:∀k,lo<=k->k<wI.heap.size->w.heap[k]? =wI.heap[k]?
 apz:∀k,v.ownBlock=some k->k<lo\/wI.heap.size<=k
 l3:w0.heap.size<=g3
 l5:w0.heap.size<=g5
 l7:w0.heap.size<=g7
 o3:g3<lo
 o5:g5<lo
 o35:g3≠g5
 o7:wI.heap.size<=g7
 oi:lo<=wI.heap.size
 os:wI.heap.size<=w.heap.size
theorem FT{w:Ae3}{b:Nat}{e t:Afa}{z n g:Nat}{v:Ae2}{xs:List Ae2}{cs:Array Ae2}{fr:Nat × Nat}(ho:w.ownsRow b e z v n xs)(hb:w.heap[g]? =some (.cells cs t fr))(hne:e≠t):v.ownBlock≠some g:=fun h=>by
 rcases ho.2 with ⟨rfl,_⟩ | ⟨g',cap,cur,rfl,_,hg,_⟩
 ·cases h
 ·have:g' =g:=by simpa [Afd] using h
  subst this;rw[hg]at hb;simp only[Option.some.injEq,Obj.cells.injEq]at hb;exact hne hb.2.1
section
variable {w0 wI w w' : Ae3} {lo g3 g5 g7 : Nat} {vt vc v : Ae2} {o : AlJ} {fr : Nat}
theorem MKD.keep(h:MKD w0 wI w lo g3 g5 g7 vt vc v o fr)(k:Ext w w'):MKD w0 wI w' lo g3 g5 g7 vt vc v o fr:=
 ⟨h.ext.trans k,Aer k h.b3,Aer k h.b5,Aer k h.b7,Aed _ _ _ _ _ _ _ _ h.own k,fun i h1 h2=>(k.block i (AfZ h2 h.os)).trans (h.fz i h1 h2),h.apz,h.l3,h.l5,h.l7,h.o3,h.o5,h.o35,h.o7,h.oi,Ae7 h.os k.size⟩
theorem MKD.grew{v' :Ae2}{o' :AlJ}(h:MKD w0 wI w lo g3 g5 g7 vt vc v o fr)(gr:Grew w w' v v')(ho:w'.ownsRow w0.heap.size 5 1 v' o'.length (Ae4 o')):MKD w0 wI w' lo g3 g5 g7 vt vc v' o' fr:=
 ⟨As h.ext gr h.own (Ae8 _),Aq h.b3 gr (FT h.own h.b3 (by decide)),Aq h.b5 gr (FT h.own h.b5 (by decide)),Aq h.b7 gr (FT h.own h.b7 (by decide)),ho,
  fun i h1 h2=>(gr.by_.block i (AfZ h2 h.os) (fun e=>by rcases h.apz i e.symm with h3 | h3 <;> omega)).trans (h.fz i h1 h2),
  fun k hk=>(gr.fresh k hk).elim (h.apz k) (fun h3=> .inr (Ae7 h.os h3)),h.l3,h.l5,h.l7,h.o3,h.o5,h.o35,h.o7,h.oi,Ae7 h.os gr.by_.size⟩
abbrev AeP:=@MKD.grew
theorem Ab5(h:MKD w0 wI w lo g3 g5 g7 vt vc v o fr)(hb:w'.heap[g5]? =some (.cells #[v] 27 (0,0)))(hg:w.grownBy w' (some g5)):MKD w0 wI w' lo g3 g5 g7 vt v v o fr:=
 have lt:=fun {k:Nat} {x:Obj} (hx:w.heap[k]? =some x)=>(Afz.1 hx).1;have h57:g7≠g5:=by have:=h.o5;have:=h.o7;have:=h.oi;omega
 ⟨Below.grown h.ext hg h.ext.size (fun k hk=>by cases hk;exact h.l5),(hg.block g3 (lt h.b3) (by simp[h.o35])).trans h.b3,hb,(hg.block g7 (lt h.b7) (by simp[h57])).trans h.b7,
  BT h.own hg (FT h.own h.b5 (by decide)),fun i h1 h2=>(hg.block i (AfZ h2 h.os) (fun e=>by cases e;have:=h.o5;omega)).trans (h.fz i h1 h2),h.apz,h.l3,h.l5,h.l7,h.o3,h.o5,h.o35,h.o7,h.oi,Ae7 h.os hg.size⟩
theorem AcJ{n:Nat}(h:MKD w0 wI w lo g3 g5 g7 vt vc v o fr)(hb:w'.heap[g7]? =some (.cells #[NI n] 3 (0,0)))(hg:w.grownBy w' (some g7)):MKD w0 wI w' lo g3 g5 g7 vt vc v o n:=
 have lt:=fun {k:Nat} {x:Obj} (hx:w.heap[k]? =some x)=>(Afz.1 hx).1;have h57:g5≠g7:=by have:=h.o5;have:=h.o7;have:=h.oi;omega
 have h37:g3≠g7:=by have:=h.o3;have:=h.o7;have:=h.oi;omega
 ⟨Below.grown h.ext hg h.ext.size (fun k hk=>by cases hk;exact h.l7),(hg.block g3 (lt h.b3) (by simp[h37])).trans h.b3,(hg.block g5 (lt h.b5) (by simp[h57])).trans h.b5,hb,
  BT h.own hg (FT h.own h.b7 (by decide)),fun i h1 h2=>(hg.block i (AfZ h2 h.os) (fun e=>by cases e;have:=h.o7;omega)).trans (h.fz i h1 h2),h.apz,h.l3,h.l5,h.l7,h.o3,h.o5,h.o35,h.o7,h.oi,Ae7 h.os hg.size⟩
theorem MKD.idx{b base:Nat}{I:Afa}{G:AlJ->List Nat}(h:MKD w0 wI w lo g3 g5 g7 vt vc v o fr)(hI:IdxAt wI b base I G)(hb:lo<=b):IdxAt w b base I G:=by
 obtain⟨h1,es,c,h2,h3⟩:=hI;refine⟨h1,es,c,(h.fz b hb (Afz.1 h2).1).trans h2,h3.born,h3.nodup,h3.keys,fun e he=> ?_,h3.all,h3.apart⟩;obtain⟨q,k1,k2,k3,k4⟩:=h3.ent e he;refine⟨q,k1,k2,k3,k4.1,?_⟩;rcases k4.2 with h5 | ⟨g,cap,cur,a,hbg,hg,r⟩
 ·exact .inl h5
 ·exact .inr ⟨g,cap,cur,a,hbg,(h.fz g (by omega) (Afz.1 hg).1).trans hg,r⟩
end
def Cz(T:AlJ)(fr to:Nat)(o:AlJ):AlJ:=if fr<to then o++Afq (2*(to-fr))++(T.drop fr).take (to-fr)else o
theorem Li:(Tryz.prog.info? 27).map (·.size)=some 1:=by kernel_rfl
theorem Rx:Plain Ae5 180:=fun _ _=>by kernel_rfl
theorem Ja(w0 wI w:Ae3)(lo g3 g5 g7:Nat)(vt v:Ae2)(o T:AlJ)(fr to:Nat)(hM:MKD w0 wI w lo g3 g5 g7 vt v v o fr)(hT:RB w0 vt T)(hto:to<=T.length)(hfr:fr<=T.length)(hTl:T.length<=1048576)(hol:o.length<=1073741824):
  Calls Ae5 182 #[NI to,PQ g7 0,PQ g5 0,PQ g3 0] w fun e w' =>e = .returned (.tuple #[])/\∃v',MKD w0 wI w' lo g3 g5 g7 vt v' v' (Cz T fr to o) fr:=by
 have av:w.heap[g3]? =some (.cells ([vt]:List Ae2).toArray 27 (0,0)):=hM.b3;have u:w.heap[g5]? =some (.cells ([v]:List Ae2).toArray 27 (0,0)):=hM.b5;have q:w.heap[g7]? =some (.cells ([NI (fr)]:List Ae2).toArray 3 (0,0)):=hM.b7;have aw:=hT.keep hM.ext;refine gG (args:= [NI to,PQ g7 0,PQ g5 0,PQ g3 0]) Tryz.func182 rfl 20 rfl rfl (gS (Aax Vx rfl rfl (cellAt q rfl) (gS (Aay (a:=(to:Nat)) (b:=(fr:Nat)) rfl rfl (Bj _ _ _ _) ?_))));refine cD rfl (fun hc=> ?_) fun hc=> ?_
 ·have ax:=Bv (2*(to-fr)) (by omega);refine gS (Aax GR rfl rfl (cellAt u rfl) (gS (Aax Vx rfl rfl (cellAt q rfl) (gS (Aaz (xv:=NI to) (yv:=NI fr) rfl rfl rfl (BL _ _ _ (by omega) (by omega)) (gS (Aaz (xv:=NI 2) (yv:=NI ((to)-(fr))) rfl rfl rfl (Cy _ _ _ (by omega)) (gS (AaA Rx rfl rfl ((DL _ w0.heap.size v (o) hM.own hM.ext.size ((2)*((to)-(fr))) (by omega) (by omega)).mono ?_))))))))));rintro e g ⟨c,rfl,y,z⟩;refine⟨_,rfl,?_⟩;have hM10:=AeP hM z y;clear hM;have ay:g.heap[g3]? =some (.cells ([vt]:List Ae2).toArray 27 (0,0)):=hM10.b3;have az:g.heap[g5]? =some (.cells ([v]:List Ae2).toArray 27 (0,0)):=hM10.b5;have a0:g.heap[g7]? =some (.cells ([NI (fr)]:List Ae2).toArray 3 (0,0)):=hM10.b7;have a1:=hT.keep hM10.ext;refine gS (Aa0 (i:=0) (v:=c) rfl rfl hM10.b5 (Afj rfl) Li (Cm hM10.own).1 (Cm hM10.own).2 fun j aa ab a2=> ?_);have hM20:=Ab5 hM10 aa ab;clear hM10;have ac:j.heap[g3]? =some (.cells ([vt]:List Ae2).toArray 27 (0,0)):=hM20.b3;have ad:j.heap[g5]? =some (.cells ([c]:List Ae2).toArray 27 (0,0)):=hM20.b5;have ae:j.heap[g7]? =some (.cells ([NI (fr)]:List Ae2).toArray 3 (0,0)):=hM20.b7;have af:=hT.keep hM20.ext;refine gR ?_;refine NG 5 _ [4] [Is (c),Is (vt),Is (NI fr),Is (NI to),fun x w' =>RB w' x ((T.drop (fr)).take ((to)-(fr))),fun x w' =>MKD w0 wI w' lo g3 g5 g7 vt c x ((o++Afq ((2)*((to)-(fr))))++(T.drop (fr)).take ((to)-(fr))) (fr)] (by kernel_rfl) [14,15,16,17,18,19] (by kernel_rfl) (by kernel_rfl) (by kernel_rfl) (by kernel_rfl) (by kernel_rfl) rfl rfl rfl rfl (NZ ⟨(fun _ _ _ h k=>AeM h k),trivial⟩) ⟨.inr (AaG _), .inr (AaG _), .inr (AaG _), .inr (AaG _), .inl rfl,trivial⟩ ?ag ?hQ1002
  case ag=>
   refine⟨?_,?_,?_,?_,?_,?_,?_,trivial⟩
   ·refine DT (Af rfl fun σ w1 hC h=> ?_);have e2:σ 2=PQ g5 0:=(An (h 2 (by decide))).trans rfl;exact Aax GR rfl e2 (cellAt (eb hC ad) (show _=some (c:Ae2)from rfl)) ⟨Ad4 _,rfl⟩
   ·refine DT (Af rfl fun σ w1 hC h=> ?_);have e3:σ 3=PQ g3 0:=(An (h 3 (by decide))).trans rfl;exact Aax GR rfl e3 (cellAt (eb hC ac) (show _=some (vt:Ae2)from rfl)) ⟨Ad4 _,rfl⟩
   ·refine DT (Af rfl fun σ w1 hC h=> ?_);have e1:σ 1=PQ g7 0:=(An (h 1 (by decide))).trans rfl;exact Aax Vx rfl e1 (cellAt (eb hC ae) (show _=some (NI fr:Ae2)from rfl)) ⟨Ad4 _,rfl⟩
   ·refine DT (Af rfl fun σ w1 hC h=> ?_);have e0:σ 0=NI to:=(An (h 0 (by decide))).trans rfl;exact Aeb e0 ⟨Ad4 _,rfl⟩
   ·refine DT (Af rfl fun σ w1 hC h=> ?_);have al:=An (h 15 (by decide));have am:=An (h 16 (by decide));have an:=An (h 17 (by decide));exact AbJ (xs:=T) (l:=fr) (n:=to) GR Rg rfl (AaF (af.keep hC) al) am an (by omega) (by omega) fun v hr _=>⟨Ad4 _,hr⟩
   ·refine DT (Af rfl fun σ w1 hC h=> ?_);have r:=An (h 14 (by decide));have ao:(fun x w' =>RB w' x ((T.drop (fr)).take ((to)-(fr)))) (σ 18) w1:=h 18 (by decide);have hM1:=hM20.keep hC;exact Abc _ _ w0.heap.size (.int .u8 0) GR NU rfl GR (o++Afq ((2)*((to)-(fr)))) ((T.drop (fr)).take ((to)-(fr))) (Dd hM1.own r) ao (by simp only[Ae9,Afi,Afn];omega) hM1.ext.size fun x w2 ho hg=>⟨trivial,AeP hM1 (r▸hg) ho⟩
   ·exact trivial
  intro s ap he hf;obtain⟨-,-,-,-,-,k19,-⟩:=hf;obtain⟨T0,T1,T2,T3,-⟩:=he.hold [(0,NI to),(1,PQ g7 0),(2,PQ g5 0),(3,PQ g3 0)] ⟨rfl,rfl,rfl,rfl,trivial⟩ rfl;clear he;have k19:(fun x w' =>MKD w0 wI w' lo g3 g5 g7 vt c x ((o++Afq ((2)*((to)-(fr))))++(T.drop (fr)).take ((to)-(fr))) (fr)) (s 19) ap:=k19;obtain⟨m,t⟩:∃v,s 19=v:=⟨_,rfl⟩;rw[t]at k19;have f:=k19;clear k19;refine(Aa0 (i:=0) (v:=m) T2 t f.b5 (Afj rfl) Li (Cm f.own).1 (Cm f.own).2 fun p ar au a6=> ?_);have hM34:=Ab5 f ar au;clear f;have a7:p.heap[g3]? =some (.cells ([vt]:List Ae2).toArray 27 (0,0)):=hM34.b3;have a8:p.heap[g5]? =some (.cells ([m]:List Ae2).toArray 27 (0,0)):=hM34.b5;have a9:p.heap[g7]? =some (.cells ([NI (fr)]:List Ae2).toArray 3 (0,0)):=hM34.b7;have ba:=hT.keep hM34.ext;refine gX (rt0 rfl ?_);refine⟨rfl,m,?_⟩;rw[Cz,if_pos hc];exact hM34
 refine rt0 rfl ?_;refine⟨rfl,v,?_⟩;rw[Cz,if_neg (by omega)];exact hM
section
variable {P : Program} {K : Ae2 -> Ae3 -> Prop} {ρ : Ae} {w : Ae3} {d : Option Tmp} {ty : Afa} {pos : String} {af : Array Edge} {gd : Option (Nat × Bool)}
theorem Adv{t e c:Afa}(ht:P.underlying t=some (.slice c)){x:Aff}{b z n:Nat}{xs:List Ae2}(h:w.ownsRow b e z (Aa ρ x) n xs)(hk:K (NI n) w):Yk P K ((execOp (Aa ρ) ⟨d, .call ⟨.builtin .len,#[x],#[t]⟩,ty,pos,af,gd⟩).run P w):=by
 rcases h.2 with ⟨a,h0⟩ | ⟨g,cap,cur,a,-⟩
 ·subst h0;exact AbU ht a hk
 ·exact AbU ht a hk
theorem AdI{t e c:Afa}(ht:P.underlying t=some (.slice c))(he:∀w' :Ae3,(sizeOf c).run P w' = .ok 1 w'){x y:Aff}{b:Nat}{xs:List Ae2}(h:w.ownsRow b e 1 (Aa ρ x) xs.length xs){k:IntKind}{i:Nat}(hy:Aa ρ y = .int k (i:Int))(hi:i<xs.length) 
  (hk:∀v,PCell (xs.getD i undef) v w->K v w):Yk P K ((execOp (Aa ρ) ⟨d, .indexAddr t x y,ty,pos,af,gd⟩).run P w):=by
 rcases h.2 with ⟨a,h0⟩ | ⟨g,cap,cur,a,-⟩
 ·omega
 ·have hc:=h.cells (g:=g) (by rw[a];rfl) i (xs.getD i undef) (by simp[hi]);rw[Addr.add_lit]at hc;exact Ab1 ht he a hy hi (hk _ ⟨_,rfl,hc⟩)
end
def EJ(B T:AlJ)(i:Nat)(pn:Nat × Nat)(q:Nat):Nat × Nat:=if pn.2<C1 (B.drop q) (T.drop i)then(q,C1 (B.drop q) (T.drop i))else pn
def B5(B T:AlJ)(i:Nat):Nat × Nat:=if i+8<=T.length then(posOf B (B.length-7) ((T.drop i).take 8)).foldl (EJ B T i) (0,0)else(0,0)
def Dp(B T:AlJ):Nat->Nat->Nat->AlJ->AlJ
 | 0,_,fr,o=>Cz T fr T.length o
 | f+1,i,fr,o=>if i<T.length then(if(B5 B T i).2=0 then Dp B T f (i+1) fr o
  else Dp B T f (i+(B5 B T i).2) (i+(B5 B T i).2) (Cz T fr i o++Afq (2*(B5 B T i).2+1)++Afq (B5 B T i).1))else Cz T fr T.length o
def Cc(B T:AlJ):AlJ:=Dp B T T.length 0 0 (Afq B.length++Afq T.length)
theorem E4(T:AlJ)(fr to:Nat)(o:AlJ)(ht:to<=1048576):(Cz T fr to o).length<=o.length+(to-fr)+9:=by
 unfold Cz;split
 ·have:=Bv (2*(to-fr)) (by omega);simp only[Ae9,Afi,Afn];omega
 ·omega
theorem Hf{α:Type}(f:α->Nat->α)(a:α)(zs:List Nat)(j:Nat)(h:j<zs.length):(zs.take (j+1)).foldl f a=f ((zs.take j).foldl f a) (zs.getD j 0):=by
 rw[Afv h,List.foldl_append];simp[h]
theorem Yc(zs:List Nat)(j:Nat)(h:j<zs.length):(zs.map NI).getD j undef=NI (zs.getD j 0):=by simp[h]
theorem Ry{B T:AlJ}{f i fr:Nat}{o:AlJ}(h:¬i<T.length):Dp B T f i fr o=Cz T fr T.length o:=by
 cases f with
 | zero=>rfl
 | succ f=>rw[Dp,if_neg h]
theorem VC{B:AlJ}{k:Nat}{r:AlJ}{j:Nat}(h:j<(posOf B k r).length):(posOf B k r).getD j 0<k:=by
 have hm:(posOf B k r).getD j 0∈posOf B k r:=by
  rw[Ae6,Afb h];exact List.getElem_mem h
 unfold posOf at hm;rw[Agr,Ai7]at hm;exact hm.1
theorem Tm{d:Option Tmp}{ty:Afa}{pos:String}{af:Array Edge}{gd:Option (Nat × Bool)}(σ:Aff->Ae2)(w:Ae3):(execOp σ ⟨d, .alloc 27,ty,pos,af,gd⟩).run Ae5 w = .ok (.value (PQ w.heap.size 0)) (w.alloc (.cells ([.slice none 0 0]:List Ae2).toArray 27)):=by kernel_rfl
theorem Rz:Plain Ae5 181:=fun _ _=>by kernel_rfl
theorem VD{d:Option Tmp}{ty:Afa}{pos:String}{af:Array Edge}{gd:Option (Nat × Bool)}(σ:Aff->Ae2)(w:Ae3):(execOp σ ⟨d, .alloc 3,ty,pos,af,gd⟩).run Ae5 w = .ok (.value (PQ w.heap.size 0)) (w.alloc (.cells ([NI 0]).toArray 3)):=by kernel_rfl
theorem RA:Plain Ae5 183:=fun _ _=>by kernel_rfl
theorem Ij:Plain Ae5 182:=fun _ _=>by kernel_rfl
theorem VE(w:Ae3)(vb q:Ae2)(B T:AlJ)(hrb:RB w vb B)(hrt:RB w q T)(hB:B.length<=1048576)(hTl:T.length<=1048576):
  Calls Ae5 145 #[vb,q] w fun e w' =>∃v',e = .returned v' /\Ext w w' /\w'.ownsRow w.heap.size 5 1 v' (Cc B T).length (Ae4 (Cc B T)):=by
 refine gG (args:= [vb,q]) Tryz.func145 rfl 83 rfl rfl ?_;have hE:=Ad4 w;refine gS (Abx (vr q rfl) (Aeg (hrt.keep hE)).1 fun c u dq ac b9 dr=> ?_);have ap:=ac;clear ac;have ds:c<u.heap.size:=by omega
 have ak:=Ad4 u;have hE:=hE.trans b9;have ca:=hE.size;have hAS:=ak;refine gR ?_;have dt:c<u.heap.size:=(bl ap);refine NH 5 7 _ [2] (fun a b=>Below u.heap.size a b/\∀(g:Nat) (cs:Array Ae2),a.heap[g]? =some (.cells cs 27 (0,0))->b.heap[g]? =some (.cells cs 27 (0,0))) [Is (vb),Is (NI B.length),fun x w' =>w'.ownsRow u.heap.size 5 1 x (([]:AlJ)++Afq B.length).length (Ae4 (([]:AlJ)++Afq B.length)),Is (q),Is (NI T.length),fun x w' =>w'.ownsRow u.heap.size 5 1 x (([]++Afq B.length)++Afq T.length).length (Ae4 (([]++Afq B.length)++Afq T.length)),fun x w' =>∃g:Nat,x=PQ g 0/\u.heap.size<=g/\w'.heap[g]? =some (.cells #[.slice none 0 0] 27 (0,0))] (by kernel_rfl) [15,16,17,18,19,20,5] (by kernel_rfl) (by kernel_rfl) (by kernel_rfl) (by kernel_rfl) rfl rfl rfl (by decide) rfl (IW ⟨(fun _ _ _ h k=>Aed _ _ _ _ _ _ _ _ h k),(IW ⟨(fun _ _ _ h k=>Aed _ _ _ _ _ _ _ _ h k),(fun _ _ _ ⟨g,h1,h2,h3⟩ k=>⟨g,h1,h2,eb k h3⟩),trivial⟩)⟩) ⟨.inr (AaG _), .inr (AaG _), .inl rfl, .inr (AaG _), .inr (AaG _), .inl rfl, .inr ((fun _ _ _ ⟨g,h1,h2,h3⟩ k=>⟨g,h1,h2,k.2 _ _ h3⟩)),trivial⟩ (fun _ _ h k=>Below.trans h k.1) ?cb ?hQ3001
 case cb=>
  refine⟨?_,?_,?_,?_,?_,?_,?_,?_,trivial⟩
  ·refine DT (Af rfl fun σ w1 hC h=> ?_);have e0:σ 0=vb:=(An (h 0 (by decide))).trans rfl;exact Aeb e0 ⟨Ad4 _,rfl⟩
  ·refine DT (Af rfl fun σ w1 hC h=> ?_);have cc:=An (h 15 (by decide));exact AaT GR (AaF (hrb.keep (hE.trans hC)) cc) ⟨Ad4 _,rfl⟩
  ·refine DT (Af rfl fun σ w1 hC h=> ?_);have cd:=An (h 16 (by decide));have hC:Ext u w1:=hC;have al:w1.ownsRow u.heap.size 5 1 (.slice none 0 0) ([]:AlJ).length (Ae4 ([]:AlJ)):=Af5 _ _ _ 1;refine AaA Rx rfl cd ((DL w1 u.heap.size (.slice none 0 0) [] al hC.size B.length (by omega) (by simp)).mono ?_);rintro e w2 ⟨v',rfl,ho,hg⟩;exact⟨_,rfl,Ab7 hg.by_,ho⟩
  ·refine DT (Af rfl fun σ w1 hC h=> ?_);have e3:σ 3=PQ c 0:=(An (h 3 (by decide))).trans rfl;exact Aax GR rfl e3 (cellAt (eb hC ap) (show _=some (q:Ae2)from rfl)) ⟨Ad4 _,rfl⟩
  ·refine DT (Af rfl fun σ w1 hC h=> ?_);have ce:=An (h 18 (by decide));exact AaT GR (AaF (hrt.keep (hE.trans hC)) ce) ⟨Ad4 _,rfl⟩
  ·refine DT (Af rfl fun σ w1 hC h=> ?_);have ba:(fun x w' =>w'.ownsRow u.heap.size 5 1 x (([]:AlJ)++Afq B.length).length (Ae4 (([]:AlJ)++Afq B.length))) (σ 17) w1:=h 17 (by decide);have cf:=An (h 19 (by decide));have hC:Ext u w1:=hC;refine AaA Rx rfl cf ((DL w1 u.heap.size (σ 17) (([]:AlJ)++Afq B.length) ba hC.size T.length (by omega) (by have:=Bv B.length (by omega);simp;omega)).mono ?_);rintro e w2 ⟨v',rfl,ho,hg⟩;exact⟨_,rfl,⟨hg.below hC.size (fun k hk=>(World.ownsRow.lt ba k hk).1),fun g cs h=>Aq h hg (FT ba h (by decide))⟩,ho⟩
  ·refine DT (Af rfl fun σ w1 hC h=> ?_);have hC:Ext u w1:=hC;exact Ad9 (cs:=([.slice none 0 0]:List Ae2).toArray) Tm fun g w2 hn hb hx hs=>⟨hx,g,rfl,by have:=hC.size;omega,hb⟩
  ·exact trivial
 intro a2 bs bt he hf;obtain⟨-,-,-,-,-,k20,k5,-⟩:=hf;obtain⟨y,T1,s,T4,-⟩:=he.hold [(0,vb),(1,q),(3,PQ c 0),(4,(Afc none 0 0))] ⟨rfl,rfl,rfl,rfl,trivial⟩ rfl;clear he;have k20:(fun x w' =>w'.ownsRow u.heap.size 5 1 x (([]++Afq B.length)++Afq T.length).length (Ae4 (([]++Afq B.length)++Afq T.length))) (a2 20) bs:=k20;obtain⟨ay,bu⟩:∃v,a2 20=v:=⟨_,rfl⟩;rw[bu]at k20;have am:=k20;clear k20;have k5:(fun x w' =>∃g:Nat,x=PQ g 0/\u.heap.size<=g/\w'.heap[g]? =some (.cells #[.slice none 0 0] 27 (0,0))) (a2 5) bs:=k5;obtain⟨du,r⟩:∃v,a2 5=v:=⟨_,rfl⟩;rw[r]at k5;have cg:=k5;clear k5;obtain⟨g5,hv5,hlo5,ac⟩:=cg;rw[hv5]at r;have ch:OB ay g5:=FT am ac (by decide);refine(Aa0 (i:=0) (v:=ay) r bu ac (Afj rfl) Li (Cm am).1 (Cm am).2 fun au bv bb dv=> ?_);clear ac;have ac:=bv;clear bv;have dw:=bl ac;refine gX ?_;have hE:=hE.trans bt;have hE:=Ab hE bb (Ae7 ca (by omega));have ak:=ak.trans bt;have ak:=Ab ak bb (Ae7 (Ae8 _) (by omega));have dx:=hE.size;have dy:=ak.size;have ap:=eb ak ap;have hq3:=(bl ap);have hq5:=(bl ac);have am:=BT am bb ch;have hoP:=am;have hzP:=hE.size;have hzS:=hAS.size;refine gS (AaE Rz y ((Tl _ vb B (hrb.keep hE) (by omega)).mono ?_));rintro e aq ⟨bM,baseM,rfl,hX⟩;refine⟨_,rfl,?_⟩;have hzI:=hX.ext.size;have ar:=Ad4 aq;have hE:=hE.trans hX.ext;have ak:=ak.trans hX.ext;have ci:=hE.size;have dz:=ak.size;refine gS (Ad9 VD fun m cj d0 bw bx d1=> ?_);have az:=bw;clear bw;have d2:m<cj.heap.size:=by omega
 refine gS (Aa0 (i:=0) (v:=NI 0) rfl rfl az (Afj rfl) Oj rfl rfl fun ck bz b0 d3=> ?_);clear az;have az:=bz;clear bz;have d4:=bl az;refine gS (Abk (vs:= #[PQ m 0,PQ g5 0,PQ c 0]) (by simp only[AfI,AfG,AfQ];exact congrArg Agp (XJ (vr (PQ m 0) rfl) r s)) ?_);have ar:=ar.trans bx;have ar:=Ab ar b0 (Ae7 (Ae8 _) (by omega));have ap:=eb (hX.ext.trans ar) ap;have am:=Aed _ _ _ _ _ _ _ _ am (hX.ext.trans ar);have ac:=eb (hX.ext.trans ar) ac;have hE:=hE.trans bx;have hE:=Ab hE b0 (Ae7 ci (by omega));have hM0:MKD w aq ck au.heap.size c g5 m q ay ay (([]++Afq B.length)++Afq T.length) (0):=⟨hE,ap,ac,az,BM am (by omega),fun k h1 h2=>ar.block k h2,fun k hk=> .inl (hoP.lt k hk).2,by omega,by omega,by omega,hq3,hq5,by omega,by omega,by omega,by omega⟩;have hT:=hrt;refine gL (fun(ρ:Ae) (wz:Ae3)=>∃ia:Nat,∃fr:Nat,∃f:Nat,∃o:AlJ,∃v:Ae2,ρ 0=(vb:Ae2)/\ρ 1=(q:Ae2)/\ρ 3=(PQ c 0:Ae2)/\ρ 4=((Afc none 0 0):Ae2)/\ρ 5=(PQ g5 0:Ae2)/\ρ 6=(.map (some bM):Ae2)/\ρ 7=(PQ m 0:Ae2)/\ρ 8=(.func (.func 182) #[] #[PQ m 0,PQ g5 0,PQ c 0]:Ae2)/\ρ 9=(NI ia:Ae2)/\Ext w wz/\MKD w aq wz au.heap.size c g5 m q v v (o) (fr)/\(Dp B T f ia fr o=Cc B T)/\(T.length<=ia+f)/\(fr<=ia)/\(ia<=T.length)/\(o.length<=20+40*fr)/\True) (fun ρ _=>T.length-(intOf (ρ 9)).toNat) ⟨0,0,T.length,([]++Afq B.length)++Afq T.length,ay,y,T1,s,T4,r,rfl,rfl,rfl,rfl,hE,hM0,(show Dp B T T.length 0 0 _=_ from by rw[Cc,Af6]),by omega,Ae8 _,AfC _,by have:=Bv B.length (by omega);have:=Bv T.length (by omega);simp only[Ae9,AfK];omega,trivial⟩ ?_;clear hM0;clear hE;rintro a3 bc ⟨ia,fr,f,o,v,y,T1,s,T4,r,T6,T7,T8,t,hE,hM,hgo,hf,hfr,hat,hol,-⟩;have q9:=t;have z:bc.heap[c]? =some (.cells ([q]:List Ae2).toArray 27 (0,0)):=hM.b3;have an:bc.heap[g5]? =some (.cells ([v]:List Ae2).toArray 27 (0,0)):=hM.b5;have ao:bc.heap[m]? =some (.cells ([NI (fr)]:List Ae2).toArray 3 (0,0)):=hM.b7;refine gS (Aax GR rfl s (cellAt z rfl) (gS (AaT GR (AaF (hrt.keep hE) rfl) (gS (Aay (a:=(ia:Nat)) (b:=(T.length:Nat)) t rfl (AE _ _ _ _) ?_)))));refine cD rfl (fun aw=> ?_) fun aw=> ?_
 ·obtain⟨f',rfl⟩:∃f',f=f' +1:=⟨f-1,by omega⟩;refine gS (Aaz (xv:=NI ia) (yv:=NI 8) t rfl rfl (Ah _ _ _ (by omega)) (gS (Aax GR rfl s (cellAt z rfl) (gS (AaT GR (AaF (hrt.keep hE) rfl) (gS (Aay (a:=((ia)+(8):Nat)) (b:=(T.length:Nat)) rfl rfl (DR _ _ _ _) ?_)))))));refine cD rfl (fun bd=> ?_) fun bd=> ?_
  ·have hrl:((T.drop ia).take (ia+8-ia)).length=8:=by rw[Afi,Afn];omega
   have hrl8:((T.drop ia).take 8).length=8:=by rw[Afi,Afn];omega
   refine gS (Aax GR rfl s (cellAt z rfl) (gS (Aaz (xv:=NI ia) (yv:=NI 8) t rfl rfl (Ah _ _ _ (by omega)) (gS (AbJ (xs:=T) (l:=ia) (n:=(ia)+(8)) GR Rg rfl (hrt.keep hE) t rfl (by omega) (by omega) fun cl ai ha74=>(gS (AcI Ii (AaF ai rfl) (l:=(T.drop (ia)).take (((ia)+(8))-(ia))) (n:=8) (by rw[Afi,Afn];omega) (by decide) fun d5 d6 cm=>(gS (Abi rfl (show World.rangeAt _ _ _ (Ae4 ((T.drop ia).take 8))from by simpa only[Ahn] using cm) Ii rfl (by rw[Afl,hrl8];exact HA) (gS (Yk.look Tj Tk Rw Oo T6 rfl (MKD.idx hM hX.idx hX.lo) hrl8 fun b1 ag=>(gS (Adv ML (Dd ag rfl) (gL (fun(ρ:Ae) (wz:Ae3)=>∃j:Nat,∃p:Nat,∃n:Nat,ρ 0=(vb:Ae2)/\ρ 1=(q:Ae2)/\ρ 3=(PQ c 0:Ae2)/\ρ 4=((Afc none 0 0):Ae2)/\ρ 5=(PQ g5 0:Ae2)/\ρ 6=(.map (some bM):Ae2)/\ρ 7=(PQ m 0:Ae2)/\ρ 8=(.func (.func 182) #[] #[PQ m 0,PQ g5 0,PQ c 0]:Ae2)/\ρ 9=(NI ia:Ae2)/\ρ 41=(b1:Ae2)/\ρ 42=(NI ((posOf B (B.length-7) ((T.drop ia).take 8)).length):Ae2)/\ρ 43=(NI j:Ae2)/\ρ 10=(NI p:Ae2)/\ρ 11=(NI n:Ae2)/\Ext w wz/\MKD w aq wz au.heap.size c g5 m q v v (o) (fr)/\wz.heap[c]? =some (.cells ([q]:List Ae2).toArray 27 (0,0))/\wz.heap[g5]? =some (.cells ([v]:List Ae2).toArray 27 (0,0))/\wz.heap[m]? =some (.cells ([NI (fr)]:List Ae2).toArray 3 (0,0))/\RB wz cl ((T.drop (ia)).take (((ia)+(8))-(ia)))/\wz.ownsRow baseM 3 1 b1 (posOf B (B.length-7) ((T.drop ia).take 8)).length ((posOf B (B.length-7) ((T.drop ia).take 8)).map NI)/\(j<=(posOf B (B.length-7) ((T.drop ia).take 8)).length)/\(((posOf B (B.length-7) ((T.drop ia).take 8)).take j).foldl (EJ B T ia) (0,0)=(p,n))/\(p<=B.length)/\(n<=T.length-ia)/\True) (fun ρ _=>(posOf B (B.length-7) ((T.drop ia).take 8)).length-(intOf (ρ 43)).toNat) ⟨0,0,0,y,T1,s,T4,r,T6,T7,T8,t,rfl,rfl,rfl,rfl,rfl,hE,hM,z,an,ao,ai,ag,AfC _,rfl,AfC _,AfC _,trivial⟩ ?_))))))))))))));clear hE hM z an ao ai ag;rintro b2 d7 ⟨j,p,n,y,T1,s,T4,r,T6,T7,T8,t,a0,a1,av,ax,aj,hE,hM,z,an,ao,ai,ag,hjl,hbp,hp,hn,-⟩;have q43:=av;refine gS (Aay (a:=(j:Nat)) (b:=((posOf B (B.length-7) ((T.drop ia).take 8)).length:Nat)) av a1 (AE _ _ _ _) ?_);refine cD rfl (fun hj=> ?_) fun hj=> ?_
   ·have hq:=VC hj;have hpl:=posOf_length B (B.length-7) ((T.drop ia).take 8);refine gS (AdI (xs:=(posOf B (B.length-7) ((T.drop ia).take 8)).map NI) ML HT (by rw[Afu];exact Dd ag a0) av (by rw[Afu];exact hj) fun d8 be=> ?_);rw[Yc _ _ hj]at be;refine gS (AaY Vx rfl (Aa7 be rfl) ?_);clear be;refine gR ?_;refine Fa [Is (vb),Is (NI ((posOf B (B.length-7) ((T.drop ia).take 8)).getD j 0)),fun x w' =>RB w' x (B.drop ((posOf B (B.length-7) ((T.drop ia).take 8)).getD j 0)),Is (q),Is (NI ia),fun x w' =>RB w' x (T.drop (ia)),Is (NI (C1 (B.drop ((posOf B (B.length-7) ((T.drop ia).take 8)).getD j 0)) (T.drop (ia)))),Is (NI (C1 (B.drop ((posOf B (B.length-7) ((T.drop ia).take 8)).getD j 0)) (T.drop (ia))))] (by kernel_rfl) [47,48,49,50,51,52,53,14] (by kernel_rfl) (by kernel_rfl) (IW ⟨(fun _ _ _ h k=>AeM h k),(IW ⟨(fun _ _ _ h k=>AeM h k),(IW trivial)⟩)⟩) ?cn ?hQ4012
    case cn=>
     refine⟨?_,?_,?_,?_,?_,?_,?_,?_,trivial⟩
     ·refine Af rfl fun σ w1 hC h=> ?_;have e0:=(An (h 0 (by decide))).trans y;exact Aeb e0 ⟨Ad4 _,rfl⟩
     ·refine Af rfl fun σ w1 hC h=> ?_;have co:σ 13=NI ((posOf B (B.length-7) ((T.drop ia).take 8)).getD j 0):=(An (h 13 (by decide))).trans rfl;exact Aeb co ⟨Ad4 _,rfl⟩
     ·refine Af rfl fun σ w1 hC h=> ?_;have cp:=An (h 47 (by decide));have cq:=An (h 48 (by decide));exact Abj (xs:=B) (l:=(posOf B (B.length-7) ((T.drop ia).take 8)).getD j 0) GR Rg rfl (AaF (hrb.keep (hE.trans hC)) cp) cq (by omega) fun v hr _=>⟨Ad4 _,hr⟩
     ·refine Af rfl fun σ w1 hC h=> ?_;have e3:=(An (h 3 (by decide))).trans s;exact Aax GR rfl e3 (cellAt (eb hC z) (show _=some (q:Ae2)from rfl)) ⟨Ad4 _,rfl⟩
     ·refine Af rfl fun σ w1 hC h=> ?_;have e9:=(An (h 9 (by decide))).trans t;exact Aeb e9 ⟨Ad4 _,rfl⟩
     ·refine Af rfl fun σ w1 hC h=> ?_;have ct:=An (h 50 (by decide));have cu:=An (h 51 (by decide));exact Abj (xs:=T) (l:=ia) GR Rg rfl (AaF (hrt.keep (hE.trans hC)) ct) cu (by omega) fun v hr _=>⟨Ad4 _,hr⟩
     ·refine Af rfl fun σ w1 hC h=> ?_;have cv:(fun x w' =>RB w' x (B.drop ((posOf B (B.length-7) ((T.drop ia).take 8)).getD j 0))) (σ 49) w1:=h 49 (by decide);have cw:(fun x w' =>RB w' x (T.drop (ia))) (σ 52) w1:=h 52 (by decide);refine AaA RA rfl rfl ((Rs _ (σ 49) (σ 52) (B.drop ((posOf B (B.length-7) ((T.drop ia).take 8)).getD j 0)) (T.drop (ia)) cv cw (by simp only[Afn];omega)).mono ?_);rintro e w2 ⟨rfl,hx⟩;exact⟨_,rfl,hx,rfl⟩
     ·refine Af rfl fun σ w1 hC h=> ?_;have cx:=An (h 53 (by decide));exact Aek cx ⟨Ad4 _,rfl⟩
    intro cy cz ab he hf;obtain⟨-,-,-,-,-,-,-,k14,-⟩:=hf;obtain⟨y,T1,s,T4,r,T6,T7,T8,t,ax,aj,c0,a0,a1,av,-⟩:=he.hold [(0,_),(1,_),(3,_),(4,_),(5,_),(6,_),(7,_),(8,_),(9,_),(10,_),(11,_),(13,NI ((posOf B (B.length-7) ((T.drop ia).take 8)).getD j 0)),(41,_),(42,_),(43,_)] ⟨y,T1,s,T4,r,T6,T7,T8,t,ax,aj,rfl,a0,a1,av,trivial⟩ rfl;clear he;have hM:MKD w aq cz au.heap.size c g5 m q v v (o) (fr):=(hM.keep ab);have b4:cy 14=NI (C1 (B.drop ((posOf B (B.length-7) ((T.drop ia).take 8)).getD j 0)) (T.drop (ia))):=k14;clear k14;refine gX (gS (Aay (a:=(C1 (B.drop ((posOf B (B.length-7) ((T.drop ia).take 8)).getD j 0)) (T.drop (ia)):Nat)) (b:=(n:Nat)) b4 aj (Bj _ _ _ _) ?_));refine cD rfl (fun bf=> ?_) fun bf=> ?_
    ·have hE:=hE.trans ab;have z:=eb ab z;have an:=eb ab an;have ao:=eb ab ao;have ai:=ai.keep ab;have ag:=Aed _ _ _ _ _ _ _ _ ag ab;refine gS (Aaz (xv:=NI j) (yv:=NI 1) av rfl rfl (Ah _ _ _ (by omega)) (gK (AfF ⟨j+1,(posOf B (B.length-7) ((T.drop ia).take 8)).getD j 0,C1 (B.drop ((posOf B (B.length-7) ((T.drop ia).take 8)).getD j 0)) (T.drop ia),y,T1,s,T4,r,T6,T7,T8,t,a0,a1,rfl,c0,b4,hE,hM,z,an,ao,ai,ag,by omega,by rw[Hf _ _ _ _ hj,hbp,EJ,if_pos bf],by omega,by have:=(Le (B.drop ((posOf B (B.length-7) ((T.drop ia).take 8)).getD j 0)) (T.drop ia)).2;rw[Afn]at this;omega,trivial⟩ ?_)));show(posOf B (B.length-7) ((T.drop ia).take 8)).length-(intOf (NI ((j)+(1)))).toNat<(posOf B (B.length-7) ((T.drop ia).take 8)).length-(intOf (b2 43)).toNat;rw[q43];simp only[intOf,Afg];omega
    have hE:=hE.trans ab;have z:=eb ab z;have an:=eb ab an;have ao:=eb ab ao;have ai:=ai.keep ab;have ag:=Aed _ _ _ _ _ _ _ _ ag ab;refine gS (Aaz (xv:=NI j) (yv:=NI 1) av rfl rfl (Ah _ _ _ (by omega)) (gK (AfF ⟨j+1,p,n,y,T1,s,T4,r,T6,T7,T8,t,a0,a1,rfl,ax,aj,hE,hM,z,an,ao,ai,ag,by omega,by rw[Hf _ _ _ _ hj,hbp,EJ,if_neg bf],by omega,hn,trivial⟩ ?_)));show(posOf B (B.length-7) ((T.drop ia).take 8)).length-(intOf (NI ((j)+(1)))).toNat<(posOf B (B.length-7) ((T.drop ia).take 8)).length-(intOf (b2 43)).toNat;rw[q43];simp only[intOf,Afg];omega
   rw[show(posOf B (B.length-7) ((T.drop ia).take 8)).take j=posOf B (B.length-7) ((T.drop ia).take 8)from AfU (by omega)]at hbp;have hbe:B5 B T ia=(p,n):=by rw[B5,if_pos bd,hbp]
   refine gS (Aay (a:=(n:Nat)) (b:=(0:Nat)) aj rfl (AH _ _ _ _) ?_);refine cD rfl (fun al=> ?_) fun al=> ?_
   ·refine gS (Aaz (xv:=NI ia) (yv:=NI 1) t rfl rfl (Ah _ _ _ (by omega)) (gK (AfF ⟨ia+1,fr,f',o,v,y,T1,s,T4,r,T6,T7,T8,rfl,hE,hM,by rw[Dp,if_pos aw,if_pos (by rw[hbe];exact al)]at hgo;exact hgo,by omega,by omega,by omega,hol,trivial⟩ ?_)));show T.length-(intOf (NI ((ia)+(1)))).toNat<T.length-(intOf (a3 9)).toNat;rw[q9];simp only[intOf,Afg];omega
   refine gS (AbG Ij (caps:= #[PQ m 0,PQ g5 0,PQ c 0]) T8 #[NI ia,PQ m 0,PQ g5 0,PQ c 0] (by simp only[AfI,AfG,AfQ,Ag1,Af4,Af6];exact congrArg Agp (Rc t rfl rfl rfl)) ((Ja w aq _ (au.heap.size) c g5 m q v (o) T (fr) (ia) hM hT (by omega) (by omega) (by omega) (by omega)).mono ?_));rintro e bg ⟨rfl,a4,hM98⟩;refine⟨_,rfl,?_⟩;have hE:=hM98.ext;clear ai;clear ag;clear hM;have d9:bg.heap[c]? =some (.cells ([q]:List Ae2).toArray 27 (0,0)):=hM98.b3;have c1:bg.heap[g5]? =some (.cells ([a4]:List Ae2).toArray 27 (0,0)):=hM98.b5;have ea:bg.heap[m]? =some (.cells ([NI (fr)]:List Ae2).toArray 3 (0,0)):=hM98.b7;have hfl:=E4 T fr ia o (by omega);have c2:=Bv (2*n+1) (by omega);have c3:=Bv p (by omega);refine gS (Aax GR rfl r (cellAt c1 rfl) (gS (Aaz (xv:=NI 2) (yv:=NI n) rfl aj rfl (Cy _ _ _ (by omega)) (gS (Aaz (xv:=NI ((2)*(n))) (yv:=NI 1) rfl rfl rfl (Ah _ _ _ (by omega)) (gS (AaA Rx rfl rfl ((DL _ w.heap.size a4 (Cz T (fr) (ia) (o)) hM98.own hM98.ext.size (((2)*(n))+(1)) (by omega) (by first | omega | (simp only[Ae9];omega))).mono ?_))))))));rintro e bh ⟨c4,rfl,c5,c6⟩;refine⟨_,rfl,?_⟩;have hM107:=AeP hM98 c6 c5;have hE:=hM107.ext;clear hM98;have ec:bh.heap[c]? =some (.cells ([q]:List Ae2).toArray 27 (0,0)):=hM107.b3;have ed:bh.heap[g5]? =some (.cells ([a4]:List Ae2).toArray 27 (0,0)):=hM107.b5;have ee:bh.heap[m]? =some (.cells ([NI (fr)]:List Ae2).toArray 3 (0,0)):=hM107.b7;refine gS (AaA Rx rfl ax ((DL _ w.heap.size c4 (Cz T (fr) (ia) (o)++Afq (((2)*(n))+(1))) hM107.own hM107.ext.size (p) (by omega) (by first | omega | (simp only[Ae9];omega))).mono ?_));rintro e bi ⟨a5,rfl,c7,c8⟩;refine⟨_,rfl,?_⟩;have hM115:=AeP hM107 c8 c7;have hE:=hM115.ext;clear hM107;have ef:bi.heap[c]? =some (.cells ([q]:List Ae2).toArray 27 (0,0)):=hM115.b3;have eg:bi.heap[g5]? =some (.cells ([a4]:List Ae2).toArray 27 (0,0)):=hM115.b5;have eh:bi.heap[m]? =some (.cells ([NI (fr)]:List Ae2).toArray 3 (0,0)):=hM115.b7;refine gS (Aa0 (i:=0) (v:=a5) r rfl hM115.b5 (Afj rfl) Li (Cm hM115.own).1 (Cm hM115.own).2 fun bj c9 da ei=> ?_);have hM124:=Ab5 hM115 c9 da;have hE:=hM124.ext;clear hM115;have ej:bj.heap[c]? =some (.cells ([q]:List Ae2).toArray 27 (0,0)):=hM124.b3;have el:bj.heap[g5]? =some (.cells ([a5]:List Ae2).toArray 27 (0,0)):=hM124.b5;have em:bj.heap[m]? =some (.cells ([NI (fr)]:List Ae2).toArray 3 (0,0)):=hM124.b7;refine gS (Aaz (xv:=NI ia) (yv:=NI n) t aj rfl (Ah _ _ _ (by omega)) (gS (Aa0 (i:=0) (v:=NI ((ia)+(n))) T7 rfl hM124.b7 (Afj rfl) Oj rfl rfl fun bk db dc en=> ?_)));have hM133:=AcJ (n:=(ia)+(n)) hM124 db dc;have hE:=hM133.ext;clear hM124;have eo:bk.heap[c]? =some (.cells ([q]:List Ae2).toArray 27 (0,0)):=hM133.b3;have ep:bk.heap[g5]? =some (.cells ([a5]:List Ae2).toArray 27 (0,0)):=hM133.b5;have eq:bk.heap[m]? =some (.cells ([NI ((ia)+(n))]:List Ae2).toArray 3 (0,0)):=hM133.b7;refine gK (AfF ⟨ia+n,ia+n,f',Cz T (fr) (ia) (o)++Afq (((2)*(n))+(1))++Afq (p),a5,y,T1,s,T4,r,T6,T7,T8,rfl,hE,hM133,by rw[Dp,if_pos aw,if_neg (by rw[hbe];exact al),hbe]at hgo;exact hgo,by omega,by omega,by omega,by have h5:=E4 T fr ia o (by omega);have h6:=Bv (2*n+1) (by omega);have h7:=Bv p (by omega);simp only[Ae9];omega,trivial⟩ ?_);show T.length-(intOf (NI ((ia)+(n)))).toNat<T.length-(intOf (a3 9)).toNat;rw[q9];simp only[intOf,Afg];omega
  obtain⟨p,b6⟩:∃p,p=0:=⟨_,rfl⟩;obtain⟨n,hnz⟩:∃n,n=0:=⟨_,rfl⟩;have ax:=(vr (NI 0) rfl).trans (show(Value.int .i64 ((0:Nat):Int))=NI p by rw[b6]);have aj:=(vr (NI 0) rfl).trans (show(Value.int .i64 ((0:Nat):Int))=NI n by rw[hnz]);have hbe:B5 B T ia=(p,n):=by rw[B5,if_neg bd,b6,hnz]
  have hp:p<=B.length:=by omega
  have hn:n<=T.length-ia:=by omega
  refine gS (Aay (a:=(n:Nat)) (b:=(0:Nat)) aj rfl (AH _ _ _ _) ?_);refine cD rfl (fun al=> ?_) fun al=> ?_
  ·refine gS (Aaz (xv:=NI ia) (yv:=NI 1) t rfl rfl (Ah _ _ _ (by omega)) (gK (AfF ⟨ia+1,fr,f',o,v,y,T1,s,T4,r,T6,T7,T8,rfl,hE,hM,by rw[Dp,if_pos aw,if_pos (by rw[hbe];exact al)]at hgo;exact hgo,by omega,by omega,by omega,hol,trivial⟩ ?_)));show T.length-(intOf (NI ((ia)+(1)))).toNat<T.length-(intOf (a3 9)).toNat;rw[q9];simp only[intOf,Afg];omega
  refine gS (AbG Ij (caps:= #[PQ m 0,PQ g5 0,PQ c 0]) T8 #[NI ia,PQ m 0,PQ g5 0,PQ c 0] (by simp only[AfI,AfG,AfQ,Ag1,Af4,Af6];exact congrArg Agp (Rc t rfl rfl rfl)) ((Ja w aq _ (au.heap.size) c g5 m q v (o) T (fr) (ia) hM hT (by omega) (by omega) (by omega) (by omega)).mono ?_));rintro e bm ⟨rfl,a6,hM142⟩;refine⟨_,rfl,?_⟩;have hE:=hM142.ext;clear hM;have er:bm.heap[c]? =some (.cells ([q]:List Ae2).toArray 27 (0,0)):=hM142.b3;have dd:bm.heap[g5]? =some (.cells ([a6]:List Ae2).toArray 27 (0,0)):=hM142.b5;have es:bm.heap[m]? =some (.cells ([NI (fr)]:List Ae2).toArray 3 (0,0)):=hM142.b7;have hfl:=E4 T fr ia o (by omega);have c2:=Bv (2*n+1) (by omega);have c3:=Bv p (by omega);refine gS (Aax GR rfl r (cellAt dd rfl) (gS (Aaz (xv:=NI 2) (yv:=NI n) rfl aj rfl (Cy _ _ _ (by omega)) (gS (Aaz (xv:=NI ((2)*(n))) (yv:=NI 1) rfl rfl rfl (Ah _ _ _ (by omega)) (gS (AaA Rx rfl rfl ((DL _ w.heap.size a6 (Cz T (fr) (ia) (o)) hM142.own hM142.ext.size (((2)*(n))+(1)) (by omega) (by first | omega | (simp only[Ae9];omega))).mono ?_))))))));rintro e bn ⟨de,rfl,df,dh⟩;refine⟨_,rfl,?_⟩;have hM151:=AeP hM142 dh df;have hE:=hM151.ext;clear hM142;have et:bn.heap[c]? =some (.cells ([q]:List Ae2).toArray 27 (0,0)):=hM151.b3;have eu:bn.heap[g5]? =some (.cells ([a6]:List Ae2).toArray 27 (0,0)):=hM151.b5;have ew:bn.heap[m]? =some (.cells ([NI (fr)]:List Ae2).toArray 3 (0,0)):=hM151.b7;refine gS (AaA Rx rfl ax ((DL _ w.heap.size de (Cz T (fr) (ia) (o)++Afq (((2)*(n))+(1))) hM151.own hM151.ext.size (p) (by omega) (by first | omega | (simp only[Ae9];omega))).mono ?_));rintro e bo ⟨a7,rfl,di,dj⟩;refine⟨_,rfl,?_⟩;have hM159:=AeP hM151 dj di;have hE:=hM159.ext;clear hM151;have ex:bo.heap[c]? =some (.cells ([q]:List Ae2).toArray 27 (0,0)):=hM159.b3;have ey:bo.heap[g5]? =some (.cells ([a6]:List Ae2).toArray 27 (0,0)):=hM159.b5;have ez:bo.heap[m]? =some (.cells ([NI (fr)]:List Ae2).toArray 3 (0,0)):=hM159.b7;refine gS (Aa0 (i:=0) (v:=a7) r rfl hM159.b5 (Afj rfl) Li (Cm hM159.own).1 (Cm hM159.own).2 fun bp dk dl e1=> ?_);have hM168:=Ab5 hM159 dk dl;have hE:=hM168.ext;clear hM159;have e2:bp.heap[c]? =some (.cells ([q]:List Ae2).toArray 27 (0,0)):=hM168.b3;have e4:bp.heap[g5]? =some (.cells ([a7]:List Ae2).toArray 27 (0,0)):=hM168.b5;have e5:bp.heap[m]? =some (.cells ([NI (fr)]:List Ae2).toArray 3 (0,0)):=hM168.b7;refine gS (Aaz (xv:=NI ia) (yv:=NI n) t aj rfl (Ah _ _ _ (by omega)) (gS (Aa0 (i:=0) (v:=NI ((ia)+(n))) T7 rfl hM168.b7 (Afj rfl) Oj rfl rfl fun bq dm dn e6=> ?_)));have hM177:=AcJ (n:=(ia)+(n)) hM168 dm dn;have hE:=hM177.ext;clear hM168;have e7:bq.heap[c]? =some (.cells ([q]:List Ae2).toArray 27 (0,0)):=hM177.b3;have e8:bq.heap[g5]? =some (.cells ([a7]:List Ae2).toArray 27 (0,0)):=hM177.b5;have fa:bq.heap[m]? =some (.cells ([NI ((ia)+(n))]:List Ae2).toArray 3 (0,0)):=hM177.b7;refine gK (AfF ⟨ia+n,ia+n,f',Cz T (fr) (ia) (o)++Afq (((2)*(n))+(1))++Afq (p),a7,y,T1,s,T4,r,T6,T7,T8,rfl,hE,hM177,by rw[Dp,if_pos aw,if_neg (by rw[hbe];exact al),hbe]at hgo;exact hgo,by omega,by omega,by omega,by have h5:=E4 T fr ia o (by omega);have h6:=Bv (2*n+1) (by omega);have h7:=Bv p (by omega);simp only[Ae9];omega,trivial⟩ ?_);show T.length-(intOf (NI ((ia)+(n)))).toNat<T.length-(intOf (a3 9)).toNat;rw[q9];simp only[intOf,Afg];omega
 rw[Ry aw]at hgo;refine gS (Aax GR rfl s (cellAt z rfl) (gS (AaT GR (AaF (hrt.keep hE) rfl) (gS (AbG Ij (caps:= #[PQ m 0,PQ g5 0,PQ c 0]) T8 #[NI T.length,PQ m 0,PQ g5 0,PQ c 0] (by simp only[AfI,AfG,AfQ,Ag1,Af4,Af6];exact congrArg Agp (Rc rfl rfl rfl rfl)) ((Ja w aq _ (au.heap.size) c g5 m q v (o) T (fr) (T.length) hM hT (by omega) (by omega) (by omega) (by omega)).mono ?_))))));rintro e br ⟨rfl,b8,hM183⟩;refine⟨_,rfl,?_⟩;have hE:=hM183.ext;clear hM;have fb:br.heap[c]? =some (.cells ([q]:List Ae2).toArray 27 (0,0)):=hM183.b3;have dp:br.heap[g5]? =some (.cells ([b8]:List Ae2).toArray 27 (0,0)):=hM183.b5;have fc:br.heap[m]? =some (.cells ([NI (fr)]:List Ae2).toArray 3 (0,0)):=hM183.b7;refine gS (Aax GR rfl r (cellAt dp rfl) (A8 rfl (vr b8 rfl) ?_));rw[hgo]at hM183;exact⟨_,rfl,hM183.ext,BM hM183.own (Ae8 _)⟩
def Ee(D:AlJ):Option (Nat × Nat × Nat):=match AX 0 (D.drop 0)with
 | none=>none
 | some (a,k)=>match AX 0 (D.drop (0+k))with
  | none=>none
  | some (b,j)=>some (a,b,0+k+j)
def VF:Option (Nat × Nat × Nat)->Ae2
 | none=> .tuple #[NI 0,NI 0,NI 0,NI 6]
 | some (a,b,n)=> .tuple #[NI a,NI b,NI n,NI 0]
def Fy(F:AlJ)(p s nx:Nat):Option (AlJ × Nat):=if s<1\/F.length<p\/F.length-p<s then none else some ((F.drop p).take s,nx)
def Cq(B D:AlJ)(i:Nat):Option (AlJ × Nat):=match AX 0 (D.drop i)with
 | none=>none
 | some (x,k)=>if x%2=1 then(match AX 0 (D.drop (i+k))with
  | none=>none
  | some (p,m)=>Fy B p (x/2) (i+k+m))else Fy D (i+k) (x/2) (i+k+x/2)
def CA(B D:AlJ)(size:Nat):Nat->Nat->AlJ->Option AlJ
 | 0,_,_=>none
 | f+1,i,o=>if i<D.length then(match Cq B D i with
  | none=>none
  | some (b,nx)=>if size-o.length<b.length then none else CA B D size f nx (o++b))else if o.length=size then some o else none
def Bb(B D:AlJ):AlJ × Nat:=match Ee D with
 | none=>([],6)
 | some (a,b,n)=>if 262144<b then([],2)else if a≠B.length then([],6)else match CA B D b (D.length+1) n []with
  | none=>([],6)
  | some o=>(o,0)
theorem Oq{D:AlJ}{a b n:Nat}(h:Ee D=some (a,b,n)):a<9223372036854775808/\b<9223372036854775808/\n<=D.length:=by
 unfold Ee at h;split at h
 ·cases h
 ·rename_i x k hk
  have h1:=C2 (a:=0) (by omega) hk;split at h
  ·cases h
  ·rename_i y j hj
   have h2:=C2 (a:=0+k) (by omega) hj;simp only[Option.some.injEq,Prod.mk.injEq]at h;obtain⟨rfl,rfl,rfl⟩:=h;omega
theorem MM{F b:AlJ}{p s nx n:Nat}(h:Fy F p s nx=some (b,n)):1<=s/\p<=F.length/\s<=F.length-p/\b=(F.drop p).take s/\n=nx:=by
 unfold Fy at h;split at h
 ·cases h
 ·simp only[Option.some.injEq,Prod.mk.injEq]at h;exact⟨by omega,by omega,by omega,h.1.symm,h.2.symm⟩
theorem Ot{B D b:AlJ}{i nx:Nat}(hi:i<=D.length)(h:Cq B D i=some (b,nx)):i<nx/\nx<=D.length/\b.length<=B.length+D.length:=by
 unfold Cq at h;split at h
 ·cases h
 ·rename_i x k hk
  have h1:=C2 hi hk;split at h
  ·split at h
   ·cases h
   ·rename_i p m hm
    have h2:=C2 (a:=i+k) (by omega) hm;obtain⟨c1,c2,c3,rfl,rfl⟩:=MM h;rw[Afi,Afn];omega
  ·obtain⟨c1,c2,c3,rfl,rfl⟩:=MM h;rw[Afi,Afn];omega
theorem CW:Plain Ae5 128:=fun _ _=>by kernel_rfl
theorem MN(w:Ae3)(v:Ae2)(D:AlJ)(hr:RB w v D):
  Calls Ae5 211 #[v] w fun e w' =>e = .returned (VF (Ee D))/\Ext w w' :=by
 refine gG (args:= [v]) Tryz.func211 rfl 26 rfl rfl ?_;have hE:=Ad4 w;rcases hgxa:AX 0 (D.drop (0))with _ | ⟨xa,ka⟩
 ·refine gS (AaA CW rfl rfl ((NV _ v D (hr.keep hE) (0) (by omega) hgxa).mono ?_));rintro e j ⟨rfl,c⟩;refine⟨_,rfl,?_⟩;have hE:=hE.trans c;refine gS (Ad5 (vs:= [NI 0,NI 0,NI 6]) rfl rfl (gS (Ad5 (vs:= [NI 0,NI 0,NI 6]) rfl rfl (gS (Ad5 (vs:= [NI 0,NI 0,NI 6]) rfl rfl (gS (Aay (a:=(6:Nat)) (b:=(0:Nat)) rfl rfl (AV _ _ _ _) (kT (by decide) (cT rfl (Zv (v:= .tuple #[NI 0,NI 0,NI 0,NI 6]) (vs:= [NI 0,NI 0,NI 0,NI 6]) rfl rfl ⟨rfl,rfl,rfl,rfl,trivial⟩ ?_))))))))));refine⟨?_,hE⟩;rw[Ee,hgxa];rfl
 have hqxa:=C2 (a:=0) (by omega) hgxa;rcases hgxb:AX 0 (D.drop (0+ka))with _ | ⟨xb,kb⟩
 ·refine gS (AaA CW rfl rfl ((I7 _ v D (hr.keep hE) (0) (by omega) xa ka hgxa).mono ?_));rintro e k ⟨rfl,f⟩;refine⟨_,rfl,?_⟩;have hE:=hE.trans f;refine gS (Ad5 (vs:= [NI xa,NI ((0)+ka),NI 0]) rfl rfl (gS (Ad5 (vs:= [NI xa,NI ((0)+ka),NI 0]) rfl rfl (gS (Ad5 (vs:= [NI xa,NI ((0)+ka),NI 0]) rfl rfl (gS (Aay (a:=(0:Nat)) (b:=(0:Nat)) rfl rfl (AV _ _ _ _) (kF (by decide) (cF rfl (gS (AaA CW rfl rfl ((NV _ v D (hr.keep hE) ((0)+ka) (by omega) hgxb).mono ?_))))))))))));rintro e l ⟨rfl,g⟩;refine⟨_,rfl,?_⟩;have hE:=hE.trans g;refine gS (Ad5 (vs:= [NI 0,NI 0,NI 6]) rfl rfl (gS (Ad5 (vs:= [NI 0,NI 0,NI 6]) rfl rfl (gS (Ad5 (vs:= [NI 0,NI 0,NI 6]) rfl rfl (gS (Aay (a:=(6:Nat)) (b:=(0:Nat)) rfl rfl (AV _ _ _ _) (kT (by decide) (cT rfl (Zv (v:= .tuple #[NI 0,NI 0,NI 0,NI 6]) (vs:= [NI 0,NI 0,NI 0,NI 6]) rfl rfl ⟨rfl,rfl,rfl,rfl,trivial⟩ ?_))))))))));refine⟨?_,hE⟩;rw[Ee,hgxa];simp only;rw[hgxb];rfl
 have hqxb:=C2 (a:=0+ka) (by omega) hgxb;refine gS (AaA CW rfl rfl ((I7 _ v D (hr.keep hE) (0) (by omega) xa ka hgxa).mono ?_));rintro e m ⟨rfl,h⟩;refine⟨_,rfl,?_⟩;have hE:=hE.trans h;refine gS (Ad5 (vs:= [NI xa,NI ((0)+ka),NI 0]) rfl rfl (gS (Ad5 (vs:= [NI xa,NI ((0)+ka),NI 0]) rfl rfl (gS (Ad5 (vs:= [NI xa,NI ((0)+ka),NI 0]) rfl rfl (gS (Aay (a:=(0:Nat)) (b:=(0:Nat)) rfl rfl (AV _ _ _ _) (kF (by decide) (cF rfl (gS (AaA CW rfl rfl ((I7 _ v D (hr.keep hE) ((0)+ka) (by omega) xb kb hgxb).mono ?_))))))))))));rintro e n ⟨rfl,i⟩;refine⟨_,rfl,?_⟩;have hE:=hE.trans i;refine gS (Ad5 (vs:= [NI xb,NI (((0)+ka)+kb),NI 0]) rfl rfl (gS (Ad5 (vs:= [NI xb,NI (((0)+ka)+kb),NI 0]) rfl rfl (gS (Ad5 (vs:= [NI xb,NI (((0)+ka)+kb),NI 0]) rfl rfl (gS (Aay (a:=(0:Nat)) (b:=(0:Nat)) rfl rfl (AV _ _ _ _) (kF (by decide) (cF rfl (Zv (v:= .tuple #[NI xa,NI xb,NI (((0)+ka)+kb),NI 0]) (vs:= [NI xa,NI xb,NI (((0)+ka)+kb),NI 0]) rfl rfl ⟨rfl,rfl,rfl,rfl,trivial⟩ ?_))))))))));refine⟨?_,hE⟩;rw[Ee,hgxa];simp only;rw[hgxb];rfl
theorem VG(w:Ae3)(v:Ae2)(D:AlJ)(hr:RB w v D)(h:Ee D=none):
  Calls Ae5 211 #[v] w fun e w' =>e = .returned (.tuple #[NI 0,NI 0,NI 0,NI 6])/\Ext w w' :=by
 have:=MN w v D hr;rw[h]at this;exact this
theorem Tn(w:Ae3)(v:Ae2)(D:AlJ)(hr:RB w v D)(a b n:Nat)(h:Ee D=some (a,b,n)):
  Calls Ae5 211 #[v] w fun e w' =>e = .returned (.tuple #[NI a,NI b,NI n,NI 0])/\Ext w w' :=by
 have:=MN w v D hr;rw[h]at this;exact this
theorem MO(w:Ae3)(vb v:Ae2)(B D:AlJ)(hrb:RB w vb B)(hr:RB w v D)(i:Nat)(hi:i<=D.length)(hB:B.length<=1048576)(hD:D.length<=4611686018427387904):
  Calls Ae5 212 #[vb,v,NI i] w fun e w' =>(match Cq B D i with | none=>e = .returned (.tuple #[.slice none 0 0,NI 0, .bool false]) | some (b,nx)=>∃v',e = .returned (.tuple #[v',NI nx, .bool true])/\RB w' v' b)/\Ext w w' :=by
 refine gG (args:= [vb,v,NI i]) Tryz.func212 rfl 70 rfl rfl ?_;have hE:=Ad4 w;rcases hgx:AX 0 (D.drop (i))with _ | ⟨x,k⟩
 ·refine gS (AaA CW rfl rfl ((NV _ v D (hr.keep hE) (i) (by omega) hgx).mono ?_));rintro e y ⟨rfl,o⟩;refine⟨_,rfl,?_⟩;refine gS (Ad5 (vs:= [NI 0,NI 0,NI 6]) rfl rfl (gS (Ad5 (vs:= [NI 0,NI 0,NI 6]) rfl rfl (gS (Ad5 (vs:= [NI 0,NI 0,NI 6]) rfl rfl (gS (Aay (a:=(6:Nat)) (b:=(0:Nat)) rfl rfl (AV _ _ _ _) (kT (by decide) (cT rfl (J7 rfl (vr (Afc none 0 0) rfl) (vr (NI 0) rfl) (vr (.bool (false)) rfl) ?_))))))))));rw[Cq,hgx];have hE:=hE.trans o;exact⟨rfl,hE⟩
 have hqx:=C2 (a:=i) (by omega) hgx;refine gS (AaA CW rfl rfl ((I7 _ v D (hr.keep hE) (i) (by omega) x k hgx).mono ?_));rintro e z ⟨rfl,g⟩;refine⟨_,rfl,?_⟩;refine gS (Ad5 (vs:= [NI x,NI ((i)+k),NI 0]) rfl rfl (gS (Ad5 (vs:= [NI x,NI ((i)+k),NI 0]) rfl rfl (gS (Ad5 (vs:= [NI x,NI ((i)+k),NI 0]) rfl rfl (gS (Aay (a:=(0:Nat)) (b:=(0:Nat)) rfl rfl (AV _ _ _ _) (kF (by decide) (cF rfl (gS (Aaz (xv:=NI x) (yv:=NI 2) rfl rfl rfl (JR _ _ _ (by omega) (by omega)) (gS (Aaz (xv:=NI x) (yv:=NI 2) rfl rfl rfl (HM _ _ _ (by omega)) (gS (Aay (a:=((x)%(2):Nat)) (b:=(1:Nat)) rfl rfl (AH _ _ _ _) ?_)))))))))))))));refine cD rfl (fun hodd=> ?_) fun hodd=> ?_
 ·rcases hgp:AX 0 (D.drop (i+k))with _ | ⟨p,m⟩
  ·have hE:=hE.trans g;refine gS (AaA CW rfl rfl ((NV _ v D (hr.keep hE) ((i)+k) (by omega) hgp).mono ?_));rintro e aa ⟨rfl,q⟩;refine⟨_,rfl,?_⟩;refine gS (Ad5 (vs:= [NI 0,NI 0,NI 6]) rfl rfl (gS (Ad5 (vs:= [NI 0,NI 0,NI 6]) rfl rfl (gS (Ad5 (vs:= [NI 0,NI 0,NI 6]) rfl rfl (gS (Aay (a:=(6:Nat)) (b:=(0:Nat)) rfl rfl (AV _ _ _ _) (kT (by decide) (cT rfl (J7 rfl (vr (Afc none 0 0) rfl) (vr (NI 0) rfl) (vr (.bool (false)) rfl) ?_))))))))));rw[Cq,hgx];simp only;rw[if_pos hodd,hgp];have hE:=hE.trans q;refine⟨?_,hE⟩
   first | rfl | trivial
  have hqp:=C2 (a:=i+k) (by omega) hgp;have hE:=hE.trans g;refine gS (AaA CW rfl rfl ((I7 _ v D (hr.keep hE) ((i)+k) (by omega) p m hgp).mono ?_));rintro e ab ⟨rfl,j⟩;refine⟨_,rfl,?_⟩;refine gS (Ad5 (vs:= [NI p,NI (((i)+k)+m),NI 0]) rfl rfl (gS (Ad5 (vs:= [NI p,NI (((i)+k)+m),NI 0]) rfl rfl (gS (Ad5 (vs:= [NI p,NI (((i)+k)+m),NI 0]) rfl rfl (gS (Aay (a:=(0:Nat)) (b:=(0:Nat)) rfl rfl (AV _ _ _ _) (kF (by decide) (cF rfl ?_)))))))));by_cases c:x/2<1
  ·refine gS (Aay (a:=((x)/(2):Nat)) (b:=(1:Nat)) rfl rfl (AE _ _ _ _) (kT (c) (gS (AaS rfl rfl (gS (AaS rfl rfl (cT rfl (J7 rfl (vr (Afc none 0 0) rfl) (vr (NI 0) rfl) (vr (.bool (false)) rfl) ?_))))))));rw[Cq,hgx];simp only;rw[if_pos hodd,hgp];simp only;rw[Fy,if_pos (by omega)];have hE:=hE.trans j;refine⟨?_,hE⟩
   first | rfl | trivial
  by_cases f:B.length<p
  ·have hE:=hE.trans j;refine gS (Aay (a:=((x)/(2):Nat)) (b:=(1:Nat)) rfl rfl (AE _ _ _ _) (kF (c) (gS (AaT GR (AaF (hrb.keep hE) rfl) (gS (Aay (a:=(p:Nat)) (b:=(B.length:Nat)) rfl rfl (Bj _ _ _ _) (kT (f) (gS (AaX rfl rfl (gS (AaS rfl rfl (cT rfl (J7 rfl (vr (Afc none 0 0) rfl) (vr (NI 0) rfl) (vr (.bool (false)) rfl) ?_)))))))))))));rw[Cq,hgx];simp only;rw[if_pos hodd,hgp];simp only;rw[Fy,if_pos (by omega)];refine⟨?_,hE⟩
   first | rfl | trivial
  by_cases h:B.length-(p)<x/2
  ·have hE:=hE.trans j;refine gS (Aay (a:=((x)/(2):Nat)) (b:=(1:Nat)) rfl rfl (AE _ _ _ _) (kF (c) (gS (AaT GR (AaF (hrb.keep hE) rfl) (gS (Aay (a:=(p:Nat)) (b:=(B.length:Nat)) rfl rfl (Bj _ _ _ _) (kF (f) (gS (AaX rfl rfl (gS (AaT GR (AaF (hrb.keep hE) rfl) (gS (Aaz (xv:=NI B.length) (yv:=NI p) rfl rfl rfl (BL _ _ _ (by omega) (by omega)) (gS (Aay (a:=((x)/(2):Nat)) (b:=((B.length)-(p):Nat)) rfl rfl (Bj _ _ _ _) (kT (h) (gS (AaX rfl rfl (cT rfl (J7 rfl (vr (Afc none 0 0) rfl) (vr (NI 0) rfl) (vr (.bool (false)) rfl) ?_))))))))))))))))))));rw[Cq,hgx];simp only;rw[if_pos hodd,hgp];simp only;rw[Fy,if_pos (by omega)];refine⟨?_,hE⟩
   first | rfl | trivial
  have hE:=hE.trans j;refine gS (Aay (a:=((x)/(2):Nat)) (b:=(1:Nat)) rfl rfl (AE _ _ _ _) (kF (c) (gS (AaT GR (AaF (hrb.keep hE) rfl) (gS (Aay (a:=(p:Nat)) (b:=(B.length:Nat)) rfl rfl (Bj _ _ _ _) (kF (f) (gS (AaX rfl rfl (gS (AaT GR (AaF (hrb.keep hE) rfl) (gS (Aaz (xv:=NI B.length) (yv:=NI p) rfl rfl rfl (BL _ _ _ (by omega) (by omega)) (gS (Aay (a:=((x)/(2):Nat)) (b:=((B.length)-(p):Nat)) rfl rfl (Bj _ _ _ _) (kF (h) (gS (AaX rfl rfl (cF rfl (gS (Aaz (xv:=NI x) (yv:=NI 2) rfl rfl rfl (HM _ _ _ (by omega)) (gS (Aay (a:=((x)%(2):Nat)) (b:=(0:Nat)) rfl rfl (AH _ _ _ _) (kF (by omega) (cF rfl (gS (Aaz (xv:=NI p) (yv:=NI ((x)/(2))) rfl rfl rfl (Ah _ _ _ (by omega)) (gS (AbJ (xs:=B) (l:=p) (n:=(p)+((x)/(2))) GR Rg rfl (hrb.keep hE) rfl rfl (by omega) (by omega) fun r s ha44=>(J7 rfl (vr r rfl) (vr (NI (((i)+k)+m)) rfl) (vr (.bool (true)) rfl) ?_))))))))))))))))))))))))))))));rw[Cq,hgx];simp only;rw[if_pos hodd,hgp];simp only;rw[Fy,if_neg (by omega)];refine⟨⟨_,rfl,?_⟩,hE⟩
  simpa only[Ahn] using s
 by_cases c:x/2<1
 ·refine gS (Aay (a:=((x)/(2):Nat)) (b:=(1:Nat)) rfl rfl (AE _ _ _ _) (kT (c) (gS (AaS rfl rfl (gS (AaS rfl rfl (cT rfl (J7 rfl (vr (Afc none 0 0) rfl) (vr (NI 0) rfl) (vr (.bool (false)) rfl) ?_))))))));rw[Cq,hgx];simp only;rw[if_neg hodd];rw[Fy,if_pos (by omega)];have hE:=hE.trans g;refine⟨?_,hE⟩
  first | rfl | trivial
 by_cases f:D.length<i+k
 ·have hE:=hE.trans g;refine gS (Aay (a:=((x)/(2):Nat)) (b:=(1:Nat)) rfl rfl (AE _ _ _ _) (kF (c) (gS (AaT GR (AaF (hr.keep hE) rfl) (gS (Aay (a:=((i)+k:Nat)) (b:=(D.length:Nat)) rfl rfl (Bj _ _ _ _) (kT (f) (gS (AaX rfl rfl (gS (AaS rfl rfl (cT rfl (J7 rfl (vr (Afc none 0 0) rfl) (vr (NI 0) rfl) (vr (.bool (false)) rfl) ?_)))))))))))));rw[Cq,hgx];simp only;rw[if_neg hodd];rw[Fy,if_pos (by omega)];refine⟨?_,hE⟩
  first | rfl | trivial
 by_cases h:D.length-(i+k)<x/2
 ·have hE:=hE.trans g;refine gS (Aay (a:=((x)/(2):Nat)) (b:=(1:Nat)) rfl rfl (AE _ _ _ _) (kF (c) (gS (AaT GR (AaF (hr.keep hE) rfl) (gS (Aay (a:=((i)+k:Nat)) (b:=(D.length:Nat)) rfl rfl (Bj _ _ _ _) (kF (f) (gS (AaX rfl rfl (gS (AaT GR (AaF (hr.keep hE) rfl) (gS (Aaz (xv:=NI D.length) (yv:=NI ((i)+k)) rfl rfl rfl (BL _ _ _ (by omega) (by omega)) (gS (Aay (a:=((x)/(2):Nat)) (b:=((D.length)-((i)+k):Nat)) rfl rfl (Bj _ _ _ _) (kT (h) (gS (AaX rfl rfl (cT rfl (J7 rfl (vr (Afc none 0 0) rfl) (vr (NI 0) rfl) (vr (.bool (false)) rfl) ?_))))))))))))))))))));rw[Cq,hgx];simp only;rw[if_neg hodd];rw[Fy,if_pos (by omega)];refine⟨?_,hE⟩
  first | rfl | trivial
 have hE:=hE.trans g;refine gS (Aay (a:=((x)/(2):Nat)) (b:=(1:Nat)) rfl rfl (AE _ _ _ _) (kF (c) (gS (AaT GR (AaF (hr.keep hE) rfl) (gS (Aay (a:=((i)+k:Nat)) (b:=(D.length:Nat)) rfl rfl (Bj _ _ _ _) (kF (f) (gS (AaX rfl rfl (gS (AaT GR (AaF (hr.keep hE) rfl) (gS (Aaz (xv:=NI D.length) (yv:=NI ((i)+k)) rfl rfl rfl (BL _ _ _ (by omega) (by omega)) (gS (Aay (a:=((x)/(2):Nat)) (b:=((D.length)-((i)+k):Nat)) rfl rfl (Bj _ _ _ _) (kF (h) (gS (AaX rfl rfl (cF rfl (gS (Aaz (xv:=NI x) (yv:=NI 2) rfl rfl rfl (HM _ _ _ (by omega)) (gS (Aay (a:=((x)%(2):Nat)) (b:=(0:Nat)) rfl rfl (AH _ _ _ _) (kT (by omega) (cT rfl (gS (Aaz (xv:=NI ((i)+k)) (yv:=NI ((x)/(2))) rfl rfl rfl (Ah _ _ _ (by omega)) (gS (Aaz (xv:=NI ((i)+k)) (yv:=NI ((x)/(2))) rfl rfl rfl (Ah _ _ _ (by omega)) (gS (AbJ (xs:=D) (l:=(i)+k) (n:=((i)+k)+((x)/(2))) GR Rg rfl (hr.keep hE) rfl rfl (by omega) (by omega) fun t u ha61=>(J7 rfl (vr t rfl) (vr (NI (((i)+k)+((x)/(2)))) rfl) (vr (.bool (true)) rfl) ?_))))))))))))))))))))))))))))))));rw[Cq,hgx];simp only;rw[if_neg hodd];rw[Fy,if_neg (by omega)];refine⟨⟨_,rfl,?_⟩,hE⟩
 simpa only[Ahn] using u
theorem Kb:Plain Ae5 211:=fun _ _=>by kernel_rfl
theorem Kc:Plain Ae5 212:=fun _ _=>by kernel_rfl
theorem VH(w:Ae3)(vb v:Ae2)(B D:AlJ)(hrb:RB w vb B)(hr:RB w v D)(i:Nat)(hi:i<=D.length)(hB:B.length<=1048576)(hD:D.length<=4611686018427387904)(h:Cq B D i=none):
  Calls Ae5 212 #[vb,v,NI i] w fun e w' =>e = .returned (.tuple #[.slice none 0 0,NI 0, .bool false])/\Ext w w' :=by
 have:=MO w vb v B D hrb hr i hi hB hD;rw[h]at this;exact this
theorem To(w:Ae3)(vb v:Ae2)(B D:AlJ)(hrb:RB w vb B)(hr:RB w v D)(i:Nat)(hi:i<=D.length)(hB:B.length<=1048576)(hD:D.length<=4611686018427387904)(b:AlJ)(nx:Nat)(h:Cq B D i=some (b,nx)):
  Calls Ae5 212 #[vb,v,NI i] w fun e w' =>∃v',e = .returned (.tuple #[v',NI nx, .bool true])/\RB w' v' b/\Ext w w' :=by
 have:=MO w vb v B D hrb hr i hi hB hD;rw[h]at this;exact this.mono fun e w' ⟨⟨v',h1,h2⟩,h3⟩=>⟨v',h1,h2,h3⟩
theorem Tp(w:Ae3)(vb v:Ae2)(B D:AlJ)(hrb:RB w vb B)(hr:RB w v D)(hB:B.length<=1048576)(hD:D.length<=4611686018427387904):
  Calls Ae5 173 #[vb,v] w fun e w' =>∃v',e = .returned (.tuple #[v',NI (Bb B D).2])/\RB w' v' (Bb B D).1/\Ext w w' /\∀k,Afd v' =some k->w.heap.size<=k/\k<w'.heap.size:=by
 refine gG (args:= [vb,v]) Tryz.func173 rfl 65 rfl rfl ?_;have hE:=Ad4 w;rcases hsz:Ee D with _ | ⟨sa,sb,sn⟩
 ·refine gS (AaE Kb rfl ((VG _ v D (hr.keep hE) hsz).mono ?_));rintro e w4 ⟨rfl,aa⟩;refine⟨_,rfl,?_⟩;refine gS (Ad5 (vs:= [NI 0,NI 0,NI 0,NI 6]) rfl rfl (gS (Ad5 (vs:= [NI 0,NI 0,NI 0,NI 6]) rfl rfl (gS (Ad5 (vs:= [NI 0,NI 0,NI 0,NI 6]) rfl rfl (gS (Ad5 (vs:= [NI 0,NI 0,NI 0,NI 6]) rfl rfl (gS (Aay (a:=(6:Nat)) (b:=(0:Nat)) rfl rfl (AV _ _ _ _) (kT (by decide) (cT rfl (BI rfl (vr (Afc none 0 0) rfl) (vr (NI 6) rfl) ?_))))))))))));have hP:Bb B D=([],6):=by rw[Bb,hsz]
  rw[hP];have hE:=hE.trans aa;exact⟨_,rfl,Aeq _,hE,(fun k hk=>by cases hk)⟩
 have hsb:=Oq hsz;refine gS (AaE Kb rfl ((Tn _ v D (hr.keep hE) sa sb sn hsz).mono ?_));rintro e ab ⟨rfl,x⟩;refine⟨_,rfl,?_⟩;refine gS (Ad5 (vs:= [NI sa,NI sb,NI sn,NI 0]) rfl rfl (gS (Ad5 (vs:= [NI sa,NI sb,NI sn,NI 0]) rfl rfl (gS (Ad5 (vs:= [NI sa,NI sb,NI sn,NI 0]) rfl rfl (gS (Ad5 (vs:= [NI sa,NI sb,NI sn,NI 0]) rfl rfl (gS (Aay (a:=(0:Nat)) (b:=(0:Nat)) rfl rfl (AV _ _ _ _) (kF (by decide) (cF rfl (gS (Aay (a:=(sb:Nat)) (b:=(262144:Nat)) rfl rfl (Bj _ _ _ _) ?_)))))))))))));refine cD rfl (fun c=> ?_) fun c=> ?_
 ·refine BI rfl (vr (Afc none 0 0) rfl) (vr (NI 2) rfl) ?_;have hP:Bb B D=([],2):=by rw[Bb,hsz];simp only;rw[if_pos c]
  rw[hP];have hE:=hE.trans x;exact⟨_,rfl,Aeq _,hE,(fun k hk=>by cases hk)⟩
 have hE:=hE.trans x;refine gS (AaT GR (AaF (hrb.keep hE) rfl) (gS (Aay (a:=(sa:Nat)) (b:=(B.length:Nat)) rfl rfl (AV _ _ _ _) ?_)));refine cD rfl (fun g=> ?_) fun g=> ?_
 ·refine BI rfl (vr (Afc none 0 0) rfl) (vr (NI 6) rfl) ?_;have hP:Bb B D=([],6):=by rw[Bb,hsz];simp only;rw[if_neg c,if_pos g]
  rw[hP];exact⟨_,rfl,Aeq _,hE,(fun k hk=>by cases hk)⟩
 have hoN:w.ownsRow w.heap.size 5 1 (Afc none 0 0) ([]:AlJ).length (Ae4 ([]:AlJ)):=Af5 _ _ _ 1;have hoN:ab.ownsRow w.heap.size 5 1 (Afc none 0 0) ([]:AlJ).length (Ae4 ([]:AlJ)):=Af5 _ _ _ 1;refine gL (fun(ρ:Ae) (wz:Ae3)=>∃i:Nat,∃f:Nat,∃o:AlJ,∃vo:Ae2,ρ 0=(vb:Ae2)/\ρ 1=(v:Ae2)/\ρ 6=(NI sa:Ae2)/\ρ 7=(NI sb:Ae2)/\ρ 9=(NI 0:Ae2)/\ρ 21=(.bool (false):Ae2)/\ρ 8=(NI i:Ae2)/\ρ 10=(vo:Ae2)/\Ext w wz/\wz.ownsRow w.heap.size 5 1 vo o.length (Ae4 (o))/\(CA B D sb f i o=CA B D sb (D.length+1) sn [])/\(D.length<i+f)/\(i<=D.length)/\(o.length<=sb)/\True) (fun ρ _=>D.length-(intOf (ρ 8)).toNat) ⟨sn,D.length+1,[],(Afc none 0 0),rfl,rfl,rfl,rfl,rfl,rfl,rfl,rfl,hE,DB hoN (rfl),rfl,by omega,by omega,by simp,trivial⟩ ?_;clear hoN;clear hE;rintro ac al ⟨i,f,o,vo,p,l,T6,q,T9,af,m,j,hE,ho_vo,hgo,hf,hi,hos,-⟩;have q8:=m;have ql10:=Fq ho_vo;obtain⟨f',rfl⟩:∃f',f=f' +1:=⟨f-1,by omega⟩;refine gS (AaT GR (AaF (hr.keep hE) l) (gS (Aay (a:=(i:Nat)) (b:=(D.length:Nat)) m rfl (AE _ _ _ _) ?_)));refine cD rfl (fun h=> ?_) fun h=> ?_
 ·rcases hpc:Cq B D i with _ | ⟨pb,nx⟩
  ·refine gS (Aa9 Kc p l m ((VH _ vb v B D (hrb.keep hE) (hr.keep hE) i (by omega) hB hD hpc).mono ?_));rintro e am ⟨rfl,ag⟩;refine⟨_,rfl,?_⟩;refine gS (Ad5 (vs:= [(Afc none 0 0),NI 0, .bool (false)]) rfl rfl (gS (Ad5 (vs:= [(Afc none 0 0),NI 0, .bool (false)]) rfl rfl (gS (Ad5 (vs:= [(Afc none 0 0),NI 0, .bool (false)]) rfl rfl (gS (Abl rfl (gS (AaS rfl rfl (cT rfl (BI rfl (vr (Afc none 0 0) rfl) (vr (NI 6) rfl) ?_)))))))))));rw[CA,if_pos h,hpc]at hgo;have hP:Bb B D=([],6):=by rw[Bb,hsz];simp only;rw[if_neg c,if_neg g,<-hgo]
   rw[hP];have hE:=hE.trans ag;exact⟨_,rfl,Aeq _,hE,(fun k hk=>by cases hk)⟩
  have hpb:=Ot (by omega) hpc;refine gS (Aa9 Kc p l m ((To _ vb v B D (hrb.keep hE) (hr.keep hE) i (by omega) hB hD pb nx hpc).mono ?_));rintro e ah ⟨n,rfl,r,s⟩;refine⟨_,rfl,?_⟩;have ho_vo:=Aed _ _ _ _ _ _ _ _ ho_vo s;refine gS (Ad5 (vs:= [n,NI nx, .bool (true)]) rfl rfl (gS (Ad5 (vs:= [n,NI nx, .bool (true)]) rfl rfl (gS (Ad5 (vs:= [n,NI nx, .bool (true)]) rfl rfl (gS (Abl rfl (gS (AaT GR (AaF r rfl) (gS (AaT GR (AaF (Aa5 ho_vo) j) (gS (Aaz (xv:=NI sb) (yv:=NI o.length) q rfl rfl (BL _ _ _ (by omega) (by omega)) (gS (Aay (a:=(pb.length:Nat)) (b:=((sb)-(o.length):Nat)) rfl rfl (Bj _ _ _ _) (gS (AaX rfl rfl ?_)))))))))))))))));refine cD rfl (fun t=> ?_) fun t=> ?_
  ·refine BI rfl (vr (Afc none 0 0) rfl) (vr (NI 6) rfl) ?_;rw[CA,if_pos h,hpc]at hgo;simp only at hgo;rw[if_pos t]at hgo;have hP:Bb B D=([],6):=by rw[Bb,hsz];simp only;rw[if_neg c,if_neg g,<-hgo]
   rw[hP];have hE:=hE.trans s;exact⟨_,rfl,Aeq _,hE,(fun k hk=>by cases hk)⟩
  have hE:=hE.trans s;refine gS (Abc _ _ w.heap.size (.int .u8 0) GR NU rfl GR (o) (pb) (Dd ho_vo j) (AaF r (vr n rfl)) (by omega) hE.size fun y ai aj u=> ?_);have u:Grew ah ai vo y:= .eqv j u;have hE:=As hE u ho_vo (Ae8 _);clear r;clear ho_vo;refine gK (AfF ⟨nx,f',o++pb,y,p,l,T6,q,T9,af,rfl,rfl,hE,DB aj (rfl),by rw[CA,if_pos h,hpc]at hgo;simp only at hgo;rw[if_neg t]at hgo;exact hgo,by omega,by omega,by rw[Ae9];omega,trivial⟩ ?_);show D.length-(intOf (NI nx)).toNat<D.length-(intOf (ac 8)).toNat;rw[q8];simp only[intOf,Afg];omega
 refine gS (AaT GR (AaF (Aa5 ho_vo) j) (gS (Aay (a:=(o.length:Nat)) (b:=(sb:Nat)) rfl q (AV _ _ _ _) ?_)));refine cD rfl (fun z=> ?_) fun z=> ?_
 ·refine BI rfl (vr (Afc none 0 0) rfl) (vr (NI 6) rfl) ?_;rw[CA,if_neg h,if_neg z]at hgo;have hP:Bb B D=([],6):=by rw[Bb,hsz];simp only;rw[if_neg c,if_neg g,<-hgo]
  rw[hP];exact⟨_,rfl,Aeq _,hE,(fun k hk=>by cases hk)⟩
 refine BI rfl j (vr (NI 0) rfl) ?_;rw[CA,if_neg h,if_pos (by omega)]at hgo;have hP:Bb B D=(o,0):=by rw[Bb,hsz];simp only;rw[if_neg c,if_neg g,<-hgo]
 rw[hP];exact⟨_,rfl,Aa5 ho_vo,hE,(ho_vo).lt⟩
theorem Jb(T:AlJ)(fr to:Nat)(o:AlJ):∃r,Cz T fr to o=o++r:=by
 unfold Cz;split
 ·exact⟨Afq (2*(to-fr))++(T.drop fr).take (to-fr),by rw[AfH]⟩
 ·exact⟨[],by simp⟩
theorem Jc(B T:AlJ):∀(f i fr:Nat) (o:AlJ),∃r,Dp B T f i fr o=o++r
 | 0,_,fr,o=>Jb T fr T.length o
 | f+1,i,fr,o=>by
  unfold Dp;split
  ·split
   ·exact Jc B T f _ _ _
   ·obtain⟨r,hr⟩:=Jc B T f (i+(B5 B T i).2) (i+(B5 B T i).2) (Cz T fr i o++Afq (2*(B5 B T i).2+1)++Afq (B5 B T i).1);obtain⟨q,hq⟩:=Jb T fr i o;exact⟨q++Afq (2*(B5 B T i).2+1)++Afq (B5 B T i).1++r,by rw[hr,hq];simp only[AfH]⟩
  ·exact Jb T fr T.length o
theorem Ew(n:Nat)(h:n<9223372036854775808)(r:AlJ):AX 0 (Afq n++r)=some (n,(Afq n).length):=HP r 8 n 0 (AfZ h (by decide)) (by omega) (by omega)
theorem PV(B T:AlJ)(hB:B.length<=1048576)(hT:T.length<=1048576):Ee (Cc B T)=some (B.length,T.length,0+(Afq B.length).length+(Afq T.length).length):=by
 obtain⟨r,hr⟩:=Jc B T T.length 0 0 (Afq B.length++Afq T.length);have h1:Cc B T=Afq B.length++(Afq T.length++r):=by rw[Cc,hr,AfH]
 unfold Ee;rw[h1,List.drop_zero,Ew _ (by omega)];simp only;rw[Agt,Ahb,Ew _ (by omega)]
theorem Qx(B T:AlJ)(i:Nat)(hi:i<=T.length):∀(zs:List Nat) (pn:Nat × Nat),(∀z∈zs,z<=B.length)->pn.1<=B.length->pn.2<=T.length-i->(zs.foldl (EJ B T i) pn).1<=B.length/\(zs.foldl (EJ B T i) pn).2<=T.length-i
 | [],_,_,h1,h2=>⟨h1,h2⟩
 | z :: zs,pn,hz,h1,h2=>by
  rw[AhP];refine Qx B T i hi zs _ (fun x hx=>hz x (by simp[hx])) ?_ ?_
  ·unfold EJ;split
   ·exact hz z (by simp)
   ·exact h1
  ·unfold EJ;split
   ·have:=(Le (B.drop z) (T.drop i)).2;rw[Afn]at this;exact this
   ·exact h2
theorem Qy(B T:AlJ)(i:Nat)(hi:i<=T.length):(B5 B T i).1<=B.length/\(B5 B T i).2<=T.length-i:=by
 unfold B5;split
 ·refine Qx B T i hi _ _ (fun z hz=> ?_) (AfC _) (AfC _);unfold posOf at hz;rw[Agr,Ai7]at hz;omega
 ·exact⟨AfC _,AfC _⟩
theorem Ou:∀(a b:AlJ) (n:Nat),n<=C1 a b->a.take n=b.take n
 | _,_,0,_=>by simp
 | [],b,n+1,h=>by simp[C1]at h
 | a :: u,[],n+1,h=>by simp[C1]at h
 | a :: u,b :: z,n+1,h=>by
  unfold C1 at h;split at h
  ·rename_i e
   rw[Ah9,Ah9,e,Ou u z n (by omega)]
  ·omega
theorem Tq:∀(n:Nat) (a b:AlJ),n<=a.length->n<=b.length->a.take n=b.take n->n<=C1 a b
 | 0,_,_,_,_,_=>AfC _
 | n+1,[],_,h,_,_=>by simp at h
 | n+1,_ :: _,[],_,h,_=>by simp at h
 | n+1,a :: u,b :: z,h1,h2,h=>by
  rw[Ah9,Ah9]at h;injection h with c e
  unfold C1;rw[if_pos c];have:=Tq n u z (by simpa using h1) (by simpa using h2) e;omega
theorem Qz(B T:AlJ)(i:Nat):∀(zs:List Nat) (pn:Nat × Nat),(pn.2=0\/pn.2=C1 (B.drop pn.1) (T.drop i)/\8<=pn.2)->(∀z∈zs,8<=C1 (B.drop z) (T.drop i))->(zs.foldl (EJ B T i) pn).2=0\/(zs.foldl (EJ B T i) pn).2=C1 (B.drop (zs.foldl (EJ B T i) pn).1) (T.drop i)/\8<=(zs.foldl (EJ B T i) pn).2
 | [],_,h,_=>h
 | z :: zs,pn,h,hz=>by
  rw[AhP];refine Qz B T i zs _ ?_ (fun x hx=>hz x (by simp[hx]));unfold EJ;split
  ·exact .inr ⟨rfl,hz z (by simp)⟩
  ·exact h
theorem QA(B T:AlJ)(i:Nat)(h:(B5 B T i).2≠0):(B5 B T i).2=C1 (B.drop (B5 B T i).1) (T.drop i)/\8<=(B5 B T i).2:=by
 have key:(B5 B T i).2=0\/(B5 B T i).2=C1 (B.drop (B5 B T i).1) (T.drop i)/\8<=(B5 B T i).2:=by
  unfold B5;split
  ·rename_i h8
   refine Qz B T i _ _ (.inl rfl) (fun z hz=> ?_);unfold posOf at hz;rw[Agr,Ai7]at hz;have he:=eq_of_beq hz.2;exact Tq 8 _ _ (by rw[Afn];omega) (by rw[Afn];omega) he
  ·exact .inl rfl
 exact key.resolve_left h
def Cr(T:AlJ)(fr to:Nat):AlJ:=if fr<to then Afq (2*(to-fr))++(T.drop fr).take (to-fr)else []
def E5(B T:AlJ):Nat->Nat->Nat->AlJ
 | 0,_,fr=>Cr T fr T.length
 | f+1,i,fr=>if i<T.length then(if(B5 B T i).2=0 then E5 B T f (i+1) fr
  else Cr T fr i++(Afq (2*(B5 B T i).2+1)++(Afq (B5 B T i).1++E5 B T f (i+(B5 B T i).2) (i+(B5 B T i).2))))else Cr T fr T.length
theorem Kz(T:AlJ)(fr to:Nat)(o:AlJ):Cz T fr to o=o++Cr T fr to:=by
 unfold Cz Cr;split
 ·rw[AfH]
 ·simp
theorem KA(B T:AlJ):∀(f i fr:Nat) (o:AlJ),Dp B T f i fr o=o++E5 B T f i fr
 | 0,_,fr,o=>Kz T fr T.length o
 | f+1,i,fr,o=>by
  unfold Dp E5;split
  ·split
   ·exact KA B T f _ _ _
   ·rw[KA B T f,Kz];simp only[AfH]
  ·exact Kz T fr T.length o
theorem Tr(n:Nat)(h:n<16384):(Afq n).length<=2:=Lib.uvarint_length 1 n (by omega)
theorem Ik(T:AlJ)(fr to:Nat)(ht:to<=T.length)(hT:T.length<=5000):(Cr T fr to).length<=2*(to-fr):=by
 unfold Cr;split
 ·have h2:=Tr (2*(to-fr)) (by omega);rw[Ae9,Afi,Afn];by_cases h1:to-fr=1
  ·rw[h1,Ait (by omega)];simp;omega
  ·omega
 ·simp
theorem Jd(B T:AlJ)(hB:B.length<=5000)(hT:T.length<=5000):∀(f i fr:Nat),fr<=i->i<=T.length->(E5 B T f i fr).length<=2*(T.length-fr)
 | 0,i,fr,_,_=>Ik T fr T.length (Ae8 _) hT
 | f+1,i,fr,h,hi=>by
  unfold E5;split
  ·split
   ·exact Jd B T hB hT f (i+1) fr (by omega) (by omega)
   ·rename_i h1 hn
    have hb:=Qy B T i hi;have h8:=(QA B T i hn).2;have ih:=Jd B T hB hT f (i+(B5 B T i).2) (i+(B5 B T i).2) (Ae8 _) (by omega);have hf:=Ik T fr i hi hT;have a:=Tr (2*(B5 B T i).2+1) (by omega);have b:=Tr (B5 B T i).1 (by omega);simp only[Ae9];omega
  ·exact Ik T fr T.length (Ae8 _) hT
theorem QB(B T:AlJ):Cc B T=Afq B.length++Afq T.length++E5 B T T.length 0 0:=KA B T _ _ _ _
theorem Je(B T:AlJ)(hB:B.length<=5000)(hT:T.length<=5000):(Cc B T).length<=2*T.length+18:=by
 have:=Jd B T hB hT T.length 0 0 (Ae8 _) (AfC _);have a:=Tr B.length (by omega);have b:=Tr T.length (by omega);rw[QB,Ae9,Ae9];omega
theorem Ts(B pre bs rest:AlJ)(h1:1<=bs.length)(h2:bs.length<=1048576):Cq B (pre++(Afq (2*bs.length)++(bs++rest))) pre.length=some (bs,pre.length+(Afq (2*bs.length)).length+bs.length):=by
 unfold Cq;rw[Ahb,Ew _ (by omega)];simp only;rw[if_neg (by omega),Fy,if_neg (by simp only[Ae9];omega),Nat.mul_div_cancel_left _ (by decide)];rw[show pre++(Afq (2*bs.length)++(bs++rest))=(pre++Afq (2*bs.length))++(bs++rest) by rw[AfH],<-Ae9,Ahb,List.take_left]
theorem RC(B pre rest:AlJ)(p n:Nat)(hn:1<=n)(hp:p<=B.length)(hpn:n<=B.length-p)(hB:B.length<=1048576):Cq B (pre++(Afq (2*n+1)++(Afq p++rest))) pre.length=some ((B.drop p).take n,pre.length+(Afq (2*n+1)).length+(Afq p).length):=by
 unfold Cq;rw[Ahb,Ew _ (by omega)];simp only;rw[if_pos (by omega),show pre++(Afq (2*n+1)++(Afq p++rest))=(pre++Afq (2*n+1))++(Afq p++rest) by rw[AfH],<-Ae9,Ahb,Ew _ (by omega)];simp only;rw[show(2*n+1)/2=n by omega,Fy,if_neg (by omega)]
theorem MP(T:AlJ)(fr to:Nat)(h:fr<=to):T.take fr++(T.drop fr).take (to-fr)=T.take to:=by
 rw[<-List.take_add]
 congr 1
 omega
theorem Lj(B T pre rest:AlJ)(fr to:Nat)(h:fr<=to)(ht:to<=T.length)(hT:T.length<=1048576)(g:Nat)(hg:(Cr T fr to++rest).length<g):∃g',rest.length<g' /\CA B (pre++(Cr T fr to++rest)) T.length g pre.length (T.take fr)=CA B (pre++(Cr T fr to++rest)) T.length g' (pre++Cr T fr to).length (T.take to):=by
 by_cases hlt:fr<to
 ·have hl:((T.drop fr).take (to-fr)).length=to-fr:=by rw[Afi,Afn];omega
  have hf:Cr T fr to=Afq (2*((T.drop fr).take (to-fr)).length)++(T.drop fr).take (to-fr):=by rw[Cr,if_pos hlt,hl]
  have hfl:1<=(Cr T fr to).length:=by rw[hf,Ae9,hl];omega
  cases g with
  | zero=>omega
  | succ g=>
   refine⟨g,by rw[Ae9]at hg;omega,?_⟩;rw[CA,if_pos (by simp only[Ae9];omega)];have hp:=Ts B pre ((T.drop fr).take (to-fr)) rest (by omega) (by omega);rw[show pre++(Cr T fr to++rest)=pre++(Afq (2*((T.drop fr).take (to-fr)).length)++((T.drop fr).take (to-fr)++rest)) by rw[hf,AfH],hp];simp only;rw[if_neg (by rw[hl,Afi];omega),MP T fr to h]
   congr 1
   rw[hf];simp only[Ae9];omega
 ·have he:fr=to:=by omega
  subst he;have hf:Cr T fr fr= []:=by rw[Cr,if_neg (by omega)]
  rw[hf]at hg ⊢;exact⟨g,by simpa using hg,by simp⟩
theorem PW(B D T:AlJ)(g:Nat)(hg:0<g):CA B D T.length g D.length (T.take T.length)=some T:=by
 cases g with
 | zero=>omega
 | succ g=>rw[CA,if_neg (by omega),List.take_length,if_pos rfl]
theorem MQ(B T pre:AlJ)(fr:Nat)(h:fr<=T.length)(hT:T.length<=1048576)(g:Nat)(hg:(Cr T fr T.length).length<g):CA B (pre++Cr T fr T.length) T.length g pre.length (T.take fr)=some T:=by
 obtain⟨g',h1,h2⟩:=Lj B T pre [] fr T.length h (Ae8 _) hT g (by simpa using hg);rw[AgG]at h2;rw[h2];exact PW B _ T g' (by omega)
theorem Jf(B T:AlJ)(hB:B.length<=1048576)(hT:T.length<=1048576):∀(f i fr:Nat) (pre:AlJ) (g:Nat),fr<=i->i<=T.length->(E5 B T f i fr).length<g->CA B (pre++E5 B T f i fr) T.length g pre.length (T.take fr)=some T
 | 0,i,fr,pre,g,h1,h2,hg=>MQ B T pre fr (by omega) hT g hg
 | f+1,i,fr,pre,g,h1,h2,hg=>by
  unfold E5 at hg ⊢;split
  ·rename_i hi
   rw[if_pos hi]at hg;split
   ·rename_i hn
    rw[if_pos hn]at hg;exact Jf B T hB hT f (i+1) fr pre g (by omega) (by omega) hg
   ·rename_i hn
    rw[if_neg hn]at hg;have hb:=Qy B T i h2;have hs:=QA B T i hn
    generalize B5 B T i=pn at *
    obtain⟨p,n⟩:=pn;simp only at hn hb hs hg ⊢;have hpn:=(Le (B.drop p) (T.drop i)).1;rw[Afn]at hpn;obtain⟨g',h3,h4⟩:=Lj B T pre (Afq (2*n+1)++(Afq p++E5 B T f (i+n) (i+n))) fr i h1 h2 hT g hg;rw[h4];have hu:=Lib.uvarint_pos (2*n+1);cases g' with
    | zero=>omega
    | succ g' =>
     rw[<-AfH pre,CA,if_pos (by simp only[Ae9];omega),RC B (pre++Cr T fr i) _ p n (by omega) hb.1 (by omega) hB];simp only;have hl:((B.drop p).take n).length=n:=by rw[Afi,Afn];omega
     rw[if_neg (by rw[hl,Afi];omega),Ou (B.drop p) (T.drop i) n (by omega)];have ht:T.take i++(T.drop i).take n=T.take (i+n):=by
      have:=MP T i (i+n) (by omega)
      rwa [Ahn]at this
     rw[ht];have ih:=Jf B T hB hT f (i+n) (i+n) (pre++Cr T fr i++Afq (2*n+1)++Afq p) g' (Ae8 _) (by omega) (by simp only[Ae9]at h3;omega);rw[<-ih];simp only[AfH,Ae9,Nat.add_assoc]
  ·rename_i hi
   rw[if_neg hi]at hg;exact MQ B T pre fr (by omega) hT g hg
theorem RD(B T:AlJ)(hB:B.length<=5000)(hT:T.length<=5000):Bb B (Cc B T)=(T,0):=by
 unfold Bb;rw[PV B T (by omega) (by omega)];simp only;rw[if_neg (by omega),if_neg (by simp),QB,Agt,<-Ae9];have:=Jf B T (by omega) (by omega) T.length 0 0 (Afq B.length++Afq T.length) ((Afq B.length++Afq T.length++E5 B T T.length 0 0).length+1) (Ae8 _) (AfC _) (by simp only[Ae9];omega);rw[List.take_zero]at this;rw[this]
theorem AcC(n i:Nat)(h:i<8):(Sha.be64 n).take (i+1)=(Sha.be64 n).take i++ [UInt8.ofNat (n/2^(56-8*i))]:=by
 unfold Sha.be64;rw[Afv (by simp;omega)];simp
def HashAt(w:Ae3)(g:Nat)(p:AlJ):Prop:=∃s r,Sha.At p s r/\w.heap[g]? =some (.cells (hashL s r (p.length%64) p.length).toArray 226 (0,0))
theorem HashAt.keep{w w' :Ae3}{g:Nat}{p:AlJ}(h:HashAt w g p)(k:Ext w w'):HashAt w' g p:=by
 obtain⟨s,r,h1,h2⟩:=h;exact⟨s,r,h1,eb k h2⟩
theorem sha6_ty147:Tryz.prog.underlying 147=some (.pointer 226):=by kernel_rfl
theorem sha6_fo226_3:AZ Ae5 226 3 73:=fun b o w=>by simp[go_sem]
theorem Jg:AZ Ae5 226 1 8:=fun b o w=>by simp[go_sem]
theorem Ex:AZ Ae5 226 2 72:=fun b o w=>by simp[go_sem]
theorem Lk:Tryz.prog.underlying 224=some (.array 64 5):=by kernel_rfl
theorem Jh:AZ Ae5 226 0 0:=fun b o w=>by simp[go_sem]
theorem RE:Plain Ae5 137:=fun _ _=>by kernel_rfl
theorem Yd(w:Ae3)(hG:Laid w):
  Calls Ae5 81 #[] w fun e w' =>∃g,e = .returned (PQ g 0)/\w.heap.size<=g/\HashAt w' g []/\Ext w w' :=by
 obtain⟨tF,fF,hF0⟩:=hG.first;refine gG (args:= []) Tryz.func81 rfl 4 rfl rfl ?_;have hE:=Ad4 w;refine gS (AaC rfl (eb hE hF0) AW rfl Ei (gS (AeB (v:= .agg (hashL Sha.first (Afk 64 0) 0 0).toArray) (by kernel_rfl) (gS (Ael (vr (.agg (hashL Sha.first (Afk 64 0) 0 0).toArray) rfl) fun a c i b f j=> ?_)))));have h:=b;clear b;have k:a<c.heap.size:=by omega
 refine A8 rfl (vr (PQ a 0) rfl) ?_;have hE:=hE.trans f;exact⟨_,rfl,by omega,⟨_,_,Sha.at_nil,h⟩,hE⟩
theorem MR(w:Ae3)(hG:Laid w)(g:Nat)(hh:1<g)(p:AlJ)(hH:HashAt w g p)(v:Ae2)(c:AlJ)(hc:RB w v c)(hv:v.ownBlock≠some g)(hb:p.length+c.length<4611686018427387904):
  Calls Ae5 82 #[PQ g 0,v] w fun e w' =>e = .returned (.tuple #[])/\HashAt w' g (p++c)/\w.grownBy w' (some g):=by
 obtain⟨s,r,hat,u⟩:=hH;have hs:=hat.slen;have hr:=hat.len;obtain⟨f,hf⟩:∃f,f=p.length%64:=⟨_,rfl⟩;rw[<-hf]at u;obtain⟨N,hN⟩:∃N,p.length+c.length=N:=⟨_,rfl⟩;have hgr:w.grownBy w (some g):=World.grownBy.refl _ _;refine gG (args:= [PQ g 0,v]) Tryz.func82 rfl 60 rfl rfl (gS (Aa8 sha6_ty147 rfl (cF rfl (gS (Ad7 rfl (gS (Ad6 sha6_fo226_3 rfl (gS (Aax Vx rfl rfl (cellAt u (hashL_size hs hr)) (gS (AaT GR (AaF hc rfl) (gS (Aaz (xv:=NI p.length) (yv:=NI c.length) rfl rfl rfl (Ah _ _ _ (by omega)) (gS (Ad7 rfl (gS (Ad6 sha6_fo226_3 rfl (gS (Aa0 (i:=73) (v:=NI ((p.length)+(c.length))) rfl rfl u (by rw[CJ hs hr];omega) Oj rfl rfl fun w4 ay al b2=> ?_)))))))))))))))))));have hG:Laid w4:=AeS hG al hh;have hgr:w.grownBy w4 (some g):=Am hgr al (fun _ e=> .inl e);clear u;have u:=ay;clear ay;have b3:=bl u;have u:w4.heap[g]? =some (.cells (hashL s r f N).toArray 226 (0,0)):=A5 u (by rw[IO hs hr,hN]);have hc:=AeE hc al (.inr hv);refine gL (fun(ρ:Ae) (wz:Ae3)=>∃m:Nat,∃s1:List UInt32,∃r1:AlJ,∃f1:Nat,∃v1:Ae2,ρ 0=(PQ g 0:Ae2)/\ρ 6=(.bool (false):Ae2)/\ρ 1=(v1:Ae2)/\Laid wz/\w.grownBy wz (some g)/\RB wz v1 (c.drop m)/\wz.heap[g]? =some (.cells (hashL s1 r1 f1 N).toArray 226 (0,0))/\(m<=c.length)/\(Sha.At (p++c.take m) s1 r1)/\(f1=(p++c.take m).length%64)/\(OB v1 g)/\True) (fun ρ _=>BO (ρ 1)) ⟨0,s,r,f,v,rfl,rfl,rfl,hG,hgr,hc,A5 u (rfl),by omega,by simpa using hat,by simpa using hf,hv,trivial⟩ ?_;clear hc;clear u;clear hG hgr;rintro az ag ⟨m,s1,r1,f1,v1,q,T6,z,hG,hgr,ab,hb0l,hm,hat1,hf1,hv1,-⟩;have q1:=z;have ql1:=ab.sliceLen;have t:=hat1.slen;have am:=hat1.len;have hf64:f1<64:=by omega
 refine gS (AaT GR (AaF ab z) (gS (Aay (a:=((c.drop m:AlJ).length:Nat)) (b:=(0:Nat)) rfl rfl (Bj _ _ _ _) ?_)));refine cD rfl (fun hc1' => ?_) fun hc1' => ?_
 ·obtain⟨X,hX⟩:∃X,X=(c.drop m).take (64-f1):=⟨_,rfl⟩;obtain⟨n,hn⟩:∃n,n=X.length:=⟨_,rfl⟩;have hxl:X.length=n:=hn.symm;have hcl:(c.drop m).length=c.length-m:=Afn;have hnm:Nat.min (c.drop m).length (64-f1)=n:=by rw[hn,hX,Afi];exact Alm _ _
  have b4:0<n:=by rw[<-hnm];exact Nat.lt_min.2 ⟨hc1',by omega⟩
  have b5:f1+n<=64:=by(have:n<=64-f1:=by rw[<-hnm];exact Nat.min_le_right _ _);omega
  have a6:n<=(c.drop m).length:=by rw[<-hnm];exact Nat.min_le_left _ _
  have hXn:X=(c.drop m).take n:=by rw[hX,<-hnm];simp[List.take_eq_take_iff];exact Alm _ _
  have htk:(p++c.take m)++X=p++c.take (m+n):=by rw[AfH,hXn,List.take_add]
  refine gR ?_;refine N5 9 [Is (PQ g 0),Is (PQ g 0),Is (PQ g 8),Is (PQ g 0),Is (PQ g 0),Is (PQ g 72),Is (NI f1),Is (.slice (some ⟨g,8+f1,none⟩) (64-f1) (64-f1)),Is (v1),fun x w' =>x=NI n/\w'.heap[g]? =some (.cells (hashL s1 (r1.take f1++X++r1.drop (f1+n)) f1 N).toArray 226 (0,0))/\ag.grownBy w' (some g),fun x w' =>x=NI n/\w'.heap[g]? =some (.cells (hashL s1 (r1.take f1++X++r1.drop (f1+n)) f1 N).toArray 226 (0,0))/\ag.grownBy w' (some g)] (by kernel_rfl) [19,20,21,22,23,24,25,26,27,28,4] (by kernel_rfl) (by kernel_rfl) (by kernel_rfl) rfl (si9 ⟨(fun _ _ _ hp he=>⟨hp.1,eb he hp.2.1,Am hp.2.2 he.grown (fun _ e=>by cases e)⟩),(fun _ _ _ hp he=>⟨hp.1,eb he hp.2.1,Am hp.2.2 he.grown (fun _ e=>by cases e)⟩),trivial⟩) (si9 trivial) ?a7 ?hQ1003
  case a7=>
   refine⟨?_,?_,?_,?_,?_,?_,?_,?_,?_,?_,?_,trivial⟩
   ·refine Af rfl fun σ w1 hC h=> ?_;have e0:=(An (h 0 (by decide))).trans q;have hC:Ext _ w1:=hC;exact Aeb e0 ⟨Ad4 _,rfl⟩
   ·refine Af rfl fun σ w1 hC h=> ?_;have a8:=An (h 19 (by decide));have hC:Ext _ w1:=hC;exact Ad7 a8 ⟨Ad4 _,rfl⟩
   ·refine Af rfl fun σ w1 hC h=> ?_;have a9:=An (h 20 (by decide));have hC:Ext _ w1:=hC;exact Ad6 Jg a9 ⟨Ad4 _,rfl⟩
   ·refine Af rfl fun σ w1 hC h=> ?_;have e0:=(An (h 0 (by decide))).trans q;have hC:Ext _ w1:=hC;exact Aeb e0 ⟨Ad4 _,rfl⟩
   ·refine Af rfl fun σ w1 hC h=> ?_;have ba:=An (h 22 (by decide));have hC:Ext _ w1:=hC;exact Ad7 ba ⟨Ad4 _,rfl⟩
   ·refine Af rfl fun σ w1 hC h=> ?_;have bb:=An (h 23 (by decide));have hC:Ext _ w1:=hC;exact Ad6 Ex bb ⟨Ad4 _,rfl⟩
   ·refine Af rfl fun σ w1 hC h=> ?_;have bc:=An (h 24 (by decide));have hC:Ext _ w1:=hC;exact Aax Vx rfl bc (cellAt (eb hC hb0l) (Ie t am)) ⟨Ad4 _,rfl⟩
   ·refine Af rfl fun σ w1 hC h=> ?_;have bd:=An (h 21 (by decide));have be:=An (h 25 (by decide));have hC:Ext _ w1:=hC;exact AcH Lk Rg bd be (by omega) ⟨Ad4 _,rfl⟩
   ·refine Af rfl fun σ w1 hC h=> ?_;have e1:=(An (h 1 (by decide))).trans z;have hC:Ext _ w1:=hC;exact Aeb e1 ⟨Ad4 _,rfl⟩
   ·refine Af rfl fun σ w1 hC h=> ?_;have bf:=An (h 26 (by decide));have bg:=An (h 27 (by decide));have hC:Ext _ w1:=hC;refine AcE (.tmp 26) (.tmp 27) (o:=8+f1) GR Zy bf (l:=c.drop m) (by show RB w1 (σ 27) _;rw[bg];exact ab.keep hC) (eb hC hb0l) (by rw[hnm];simp only[Afr,CJ t am];omega) ?_;refine⟨trivial,by rw[hnm];rfl,?_,?_⟩
    ·rw[hnm,<-hX,<-hxl];have:=Rp (f:=f1) (n:=N) (at_:=f1) (x:=X) t am (by omega);rw[this];exact setRow_heap w1 g _ _ _ _ (eb hC hb0l)
    ·exact Am (Vp hC.grown (some g)) ⟨rfl,rfl,rfl,by simp,fun k _ hk=>setRow_other w1 g k _ (fun e=>hk (by rw[e]))⟩ (fun _ e=> .inl e)
   ·refine Af rfl fun σ w1 hC h=> ?_;have bh:(fun x w' =>x=NI n/\w'.heap[g]? =some (.cells (hashL s1 (r1.take f1++X++r1.drop (f1+n)) f1 N).toArray 226 (0,0))/\ag.grownBy w' (some g)) (σ 28) w1:=h 28 (by decide);exact Aek rfl ⟨Ad4 _,bh⟩
  intro a0 ah he hf;obtain⟨-,-,-,-,-,-,-,-,-,-,k4,-⟩:=hf;obtain⟨q,z,T6,-⟩:=he.hold [(0,_),(1,_),(6,_)] ⟨q,z,T6,trivial⟩ rfl;clear he;have k4:(fun x w' =>x=NI n/\w'.heap[g]? =some (.cells (hashL s1 (r1.take f1++X++r1.drop (f1+n)) f1 N).toArray 226 (0,0))/\ag.grownBy w' (some g)) (a0 4) ah:=k4;obtain⟨b6,T4⟩:∃v,a0 4=v:=⟨_,rfl⟩;rw[T4]at k4;have bi:=k4;clear k4;obtain⟨hv4,a1,ao⟩:=bi;rw[hv4]at T4;have hG:Laid ah:=AeS hG ao hh;have hgr:w.grownBy ah (some g):=Am hgr ao (fun _ e=> .inl e);clear hb0l;have j:=a1;clear a1;obtain⟨r2,ai⟩:∃r2,r2=r1.take f1++X++r1.drop (f1+n):=⟨_,rfl⟩;have hr2l:r2.length=64:=by rw[ai];simp only[Ae9,Afi,Afn];omega
  have j:ah.heap[g]? =some (.cells (hashL s1 r2 f1 N).toArray 226 (0,0)):=A5 j (by rw[<-ai]);refine gX (gS (Ad7 q (gS (Ad6 Ex rfl (gS (Aax Vx rfl rfl (cellAt j (Ie t hr2l)) (gS (Aaz (xv:=NI f1) (yv:=NI n) rfl T4 rfl (Ah _ _ _ (by omega)) (gS (Ad7 q (gS (Ad6 Ex rfl (gS (Aa0 (i:=72) (v:=NI ((f1)+(n))) rfl rfl j (by rw[CJ t hr2l];omega) Oj rfl rfl fun ap a2 aq b7=> ?_))))))))))))));have hG:Laid ap:=AeS hG aq hh;have hgr:w.grownBy ap (some g):=Am hgr aq (fun _ e=> .inl e);clear j;have j:=a2;clear a2;have b8:=bl j;have j:ap.heap[g]? =some (.cells (hashL s1 r2 (f1+n) N).toArray 226 (0,0)):=A5 j (IN t hr2l);have ab:=AeE ab ao (.inr hv1);have ab:=AeE ab aq (.inr hv1);refine gS (Abj (xs:=c.drop m) (l:=n) GR Rg z ab T4 (a6) fun af y ha29=> ?_);have aj:OB af g:=fun e=>hv1 (ha29.symm.trans e);refine gS (Ad7 q (gS (Ad6 Ex rfl (gS (Aax Vx rfl rfl (cellAt j (Ie t hr2l)) (gS (Aay (a:=((f1+n):Nat)) (b:=(64:Nat)) rfl rfl (AH _ _ _ _) ?_)))))));refine cD rfl (fun bj=> ?_) fun bj=> ?_
  ·have hr2f:r2=r1.take f1++X:=by rw[ai,List.drop_of_length_le (by omega),AgG]
   obtain⟨R,hR⟩:∃R,R=Sha.rounds s1 r2:=⟨_,rfl⟩;have HRl:R.length=8:=by rw[hR,Sha.rounds_length _ _ t]
   have hatF:Sha.At ((p++c.take m)++X) R r2:=by rw[hR,hr2f,hf1];exact hat1.fill X (by omega)
   have hfF:0=((p++c.take m)++X).length%64:=by rw[Ae9];omega
   refine gR ?_;refine L6 12 (fun(a_ b_:Ae3)=>b_.heap[g]? =some (.cells ((cellsU R).toList++(hashL s1 r2 (f1+n) N).drop (cellsU R).size).toArray 226 (0,0))/\a_.grownBy b_ (some g)/\b_.heap.size=a_.heap.size) [Is (PQ g 0),Is (PQ g 0),Is (PQ g 0),Is (PQ g 0),Is (.agg (cellsU s1)),Is (PQ g 0),Is (PQ g 0),Is (PQ g 8),Is (.slice (some ⟨g,8,none⟩) 64 64),Is (.agg (cellsU R)),Is (PQ g 0),Is (PQ g 0),(fun _ _=>True)] (by kernel_rfl) [45,46,47,48,49,50,51,52,53,54,55,56] (by kernel_rfl) (by kernel_rfl) (by kernel_rfl) rfl (Vo ⟨AeV,trivial⟩) (Vo ⟨AeV,trivial⟩) ?bk ?hQ2007
   case bk=>
    refine⟨?_,?_,?_,?_,?_,?_,?_,?_,?_,?_,?_,?_,?_,trivial⟩
    ·refine Af rfl fun σ w1 hC h=> ?_;have e0:=(An (h 0 (by decide))).trans q;have hC:Ext _ w1:=hC;exact Aeb e0 ⟨Ad4 _,rfl⟩
    ·refine Af rfl fun σ w1 hC h=> ?_;have e0:=(An (h 0 (by decide))).trans q;have hC:Ext _ w1:=hC;exact Aeb e0 ⟨Ad4 _,rfl⟩
    ·refine Af rfl fun σ w1 hC h=> ?_;have bm:=An (h 46 (by decide));have hC:Ext _ w1:=hC;exact Ad7 bm ⟨Ad4 _,rfl⟩
    ·refine Af rfl fun σ w1 hC h=> ?_;have bn:=An (h 47 (by decide));have hC:Ext _ w1:=hC;exact Ad6 Jh bn ⟨Ad4 _,rfl⟩
    ·refine Af rfl fun σ w1 hC h=> ?_;have bo:=An (h 48 (by decide));have hC:Ext _ w1:=hC;exact Abi (cs:=s1.map fun x=>U x) bo (J9 (eb hC j)) AW rfl (by rw[Afu,t];exact Ei) ⟨Ad4 _,rfl⟩
    ·refine Af rfl fun σ w1 hC h=> ?_;have e0:=(An (h 0 (by decide))).trans q;have hC:Ext _ w1:=hC;exact Aeb e0 ⟨Ad4 _,rfl⟩
    ·refine Af rfl fun σ w1 hC h=> ?_;have bp:=An (h 50 (by decide));have hC:Ext _ w1:=hC;exact Ad7 bp ⟨Ad4 _,rfl⟩
    ·refine Af rfl fun σ w1 hC h=> ?_;have bq:=An (h 51 (by decide));have hC:Ext _ w1:=hC;exact Ad6 Jg bq ⟨Ad4 _,rfl⟩
    ·refine Af rfl fun σ w1 hC h=> ?_;have br:=An (h 52 (by decide));have hC:Ext _ w1:=hC;exact Abt Lk Rg br ⟨Ad4 _,rfl⟩
    ·refine Af rfl fun σ w1 hC h=> ?_;have bs:=An (h 49 (by decide));have bt:=An (h 53 (by decide));have hC:Ext _ w1:=hC;refine AaA RE bs bt ((Ro _ (hG.keep hC) s1 t _ r2 (Yb t hr2l (eb hC j)) hr2l).mono ?_);rintro e w2 ⟨rfl,hx⟩;exact⟨_,rfl,hx,by rw[hR];rfl⟩
    ·refine Af rfl fun σ w1 hC h=> ?_;have bu:=An (h 45 (by decide));have hC:Ext _ w1:=hC;exact Ad7 bu ⟨Ad4 _,rfl⟩
    ·refine Af rfl fun σ w1 hC h=> ?_;have bv:=An (h 55 (by decide));have hC:Ext _ w1:=hC;exact Ad6 Jh bv ⟨Ad4 _,rfl⟩
    ·refine Af rfl fun σ w1 hC h=> ?_;have bw:=An (h 56 (by decide));have bx:=An (h 54 (by decide));have hC:Ext _ w1:=hC;exact Ac3 bw bx (eb hC j) (by rw[Hx,HRl,CJ t hr2l];omega) (by rw[Hx,HRl];exact Ei) (Fw _) fun w2 h1 h2 h3=>⟨⟨h1,h2,h3⟩,trivial⟩
   intro bz a3 ar au b0 he hf;obtain⟨-,-,-,-,-,-,-,-,-,-,-,-,-⟩:=hf;obtain⟨q,z,T4,T6,-⟩:=he.hold [(0,_),(1,af),(4,_),(6,_)] ⟨q,rfl,T4,T6,trivial⟩ rfl;clear he;have hG:Laid a3:=(hG.keep au);have hgr:w.grownBy a3 (some g):=Am hgr au.grown (fun _ e=>by cases e);obtain⟨a4,av,b9⟩:=b0;have hG:Laid ar:=AeS hG av hh;have hgr:w.grownBy ar (some g):=Am hgr av (fun _ e=> .inl e);clear j;have j:=a4;clear a4;have j:ar.heap[g]? =some (.cells (hashL R r2 (f1+n) N).toArray 226 (0,0)):=A5 j (by rw[Hx,HRl];exact PP t);refine gX (gS (Ad7 q (gS (Ad6 Ex rfl (gS (Aa0 (i:=72) (v:=NI 0) rfl rfl j (by rw[CJ HRl hr2l];omega) Oj rfl rfl fun aw a5 ax ca=> ?_))))));have hG:Laid aw:=AeS hG ax hh;have hgr:w.grownBy aw (some g):=Am hgr ax (fun _ e=> .inl e);clear j;have j:=a5;clear a5;have cb:=bl j;have j:aw.heap[g]? =some (.cells (hashL R r2 0 N).toArray 226 (0,0)):=A5 j (IN HRl hr2l);have y:=y.keep au;have y:=AeE y av (.inr aj);have y:=AeE y ax (.inr aj);refine gK (AfF ⟨m+n,R,r2,0,af,q,T6,z,hG,hgr,(show RB _ _ _ from(by rw[<-Ajb];exact y)),A5 j (rfl),by omega,by rw[<-htk];exact hatF,by rw[<-htk];exact hfF,aj,trivial⟩ ?_);show BO (bz 1)<BO (az 1);rw[z,q1];have q3:=y.sliceLen;have q4:=ql1;rw[q3,q4];simp only[Afn];omega
  have hatP:Sha.At ((p++c.take m)++X) s1 r2:=by rw[ai,<-hxl,hf1];exact hat1.put X (by omega)
  have hfP:f1+n=((p++c.take m)++X).length%64:=by rw[Ae9];omega
  refine gK (AfF ⟨m+n,s1,r2,f1+n,af,q,T6,rfl,hG,hgr,(show RB _ _ _ from(by rw[<-Ajb];exact y)),A5 j (rfl),by omega,by rw[<-htk];exact hatP,by rw[<-htk];exact hfP,aj,trivial⟩ ?_);show BO (af)<BO (az 1);rw[q1];have q3:=y.sliceLen;have q4:=ql1;rw[q3,q4];simp only[Afn];omega
 have hcF:=hc1';refine rt0 rfl ?_;have hml:m=c.length:=by have:=hcF;simp at this;omega
 subst hml;refine⟨rfl,⟨s1,r1,by simpa using hat1,?_⟩,hgr⟩;have e1:f1=(p++c).length%64:=by simpa using hf1
 have e2:N=(p++c).length:=by rw[<-hN,Ae9]
 rw[<-e1,<-e2];exact hb0l
theorem Tt(s:List UInt32)(r:AlJ)(f n:Nat):∀v∈(hashL s r f n).toArray.toList,v.oneCell' =true:=by
 intro v hv;simp[hashL,Ae4]at hv;rcases hv with ⟨_,_,rfl⟩ | ⟨_,_,rfl⟩ | rfl | rfl <;> rfl
namespace Sha
def outs(s:List UInt32)(i:Nat):AlJ:=(out s).take (4*i)++Afk (32-4*i) 0
theorem out_length:∀s:List UInt32,(out s).length=4*s.length
 | []=>rfl
 | x :: s=>by
  have:=out_length s;unfold out at *;rw[Af3,Ae9,this];simp;omega
theorem outs_length(s:List UInt32)(hs:s.length=8)(i:Nat)(hi:i<=8):(outs s i).length=32:=by
 unfold outs;rw[Ae9,Afi,Afp,out_length,hs];omega
theorem outs_all(s:List UInt32)(hs:s.length=8):outs s 8=out s:=by
 unfold outs;rw[AfU (by rw[out_length,hs];exact Ae8 _)];simp
theorem outs_step(s:List UInt32)(hs:s.length=8)(i:Nat)(hi:i<8):
  ((((outs s i).set (4*i) (s.getD i 0>>>24).toUInt8).set (4*i+1) (s.getD i 0>>>16).toUInt8).set (4*i+2) (s.getD i 0>>>8).toUInt8).set (4*i+3) (s.getD i 0).toUInt8=outs s (i+1):=by
 match s,hs with
 | [a,b,c,d,e,f,g,h],_=>
  have:i=0\/i=1\/i=2\/i=3\/i=4\/i=5\/i=6\/i=7:=by omega
  rcases this with rfl | rfl | rfl | rfl | rfl | rfl | rfl | rfl <;> rfl
theorem sum_length(p:AlJ):(sum p).length=32:=by
 unfold sum;rw[out_length,blocks_length _ _ _ rfl]
end Sha
theorem Kd:(Tryz.prog.info? 226).map (·.size)=some 74:=by kernel_rfl
theorem RF:∃fs,Tryz.prog.underlying 226=some (.struct fs):=Fg (by kernel_rfl)
theorem RH{d:Option Tmp}{ty:Afa}{pos:String}{af:Array Edge}{gd:Option (Nat × Bool)}(σ:Aff->Ae2)(w:Ae3):(execOp σ ⟨d, .alloc 226,ty,pos,af,gd⟩).run Ae5 w = .ok (.value (PQ w.heap.size 0)) (w.alloc (.cells (hashL (Afk 8 0) (Afk 64 0) 0 0).toArray 226)):=by kernel_rfl
theorem Ll:Tryz.prog.underlying 228=some (.int .u64):=by kernel_rfl
theorem Tu:Plain Ae5 82:=fun _ _=>by kernel_rfl
theorem Tv(w:Ae3)(hG:Laid w)(g:Nat)(p:AlJ)(hH:HashAt w g p)(hp:p.length<1152921504606846976):
  Calls Ae5 83 #[PQ g 0] w fun e w' =>e = .returned (AB (Sha.sum p))/\Ext w w' :=by
 obtain⟨s,r,hat,c⟩:=hH;have hs:=hat.slen;have hr:=hat.len;obtain⟨f,hf⟩:∃f,f=p.length%64:=⟨_,rfl⟩;obtain⟨N,hN⟩:∃N,p.length=N:=⟨_,rfl⟩;rw[<-hf,hN]at c;have hw2:1<w.heap.size:=hG.two;refine gG (args:= [PQ g 0]) Tryz.func83 rfl 85 rfl rfl ?_;have hE:=Ad4 w;refine gS (Ad9 VA fun n2 w3 b4 bf bg ct=> ?_);have cu:=Av (bl c) b4;have h:=bf;clear bf;have cv:n2<w3.heap.size:=by omega
 have c:=eb bg c;refine gS (Aa8 sha6_ty147 rfl (cF rfl (gS (Ad7 rfl (gS (AaC rfl c (RF).choose_spec rfl (by rw[Afr,CJ hs hr];exact Kd) (gS (Ad9 RH fun y b5 bh bi a4 cw=> ?_))))))));have m:=Ad4 w3;have hE:=hE.trans bg;have bj:=hE.size;have cx:=Av (bl c) bh;have cy:=Av (bl h) bh;have o:=bi;clear bi;have cz:y<b5.heap.size:=by omega
 refine gS (AaB (vr (PQ y 0) rfl) (vr (.agg (hashL s r f N).toArray) rfl) o (by rw[Afr,Afr,CJ hs hr];rfl) (by rw[Afr,CJ hs hr];exact Kd) (Tt s r f N) fun af bk a5 c0=> ?_);have c:=eb a4 c;have c:=kb a5 c (by omega);have hE:=hE.trans a4;have hE:=Ab hE a5 (Ae7 bj (by omega));have h:=eb a4 h;have h:=kb a5 h (by omega);have m:=m.trans a4;have m:=Ab m a5 (Ae7 (Ae8 _) (by omega));clear o;have o:=bk;clear bk;have c1:=bl o;refine gS (AbR (b:=128) S7 (vr (B8 (128)) rfl) fun a6 c2 ag=> ?_);have q:=Ad4 af;have bm:=hE.size;have bn:=m.size;have b6:OB a6 g:=DA ag.own (bl c);have b7:OB a6 n2:=DA ag.own (bl h);have b8:OB a6 y:=DA ag.own (bl o);have bo:=ag.own;have c:=eb ag.ext c;have hE:=hE.trans ag.ext;have h:=eb ag.ext h;have m:=m.trans ag.ext;have o:=eb ag.ext o;have q:=q.trans ag.ext;refine gL (fun(ρ:Ae) (wz:Ae3)=>∃k:Nat,∃v4:Ae2,ρ 0=(PQ g 0:Ae2)/\ρ 2=(PQ n2 0:Ae2)/\ρ 3=(PQ y 0:Ae2)/\ρ 11=(.bool (false):Ae2)/\ρ 4=(v4:Ae2)/\wz.heap[g]? =some (.cells (hashL s r f N).toArray 226 (0,0))/\Ext w wz/\wz.heap[n2]? =some (.cells (Ae4 (Afk 32 0)).toArray 33 (0,0))/\Ext w3 wz/\wz.heap[y]? =some (.cells (hashL s r f N).toArray 226 (0,0))/\Ext af wz/\wz.ownsRow af.heap.size 5 1 v4 (128 :: Afk k 0:AlJ).length (Ae4 (128 :: Afk k 0))/\(k<=(119-N%64)%64)/\(OB v4 g)/\(OB v4 n2)/\(OB v4 y)/\True) (fun ρ _=>65-BO (ρ 4)) ⟨0,a6,rfl,rfl,rfl,rfl,rfl,c,hE,h,m,o,q,DB bo (rfl),AfC _,b6,b7,b8,trivial⟩ ?_;clear bo;clear c hE h m o q;rintro b9 ca ⟨k,v4,T0,T2,T3,ao,T4,c,hE,h,m,o,q,ho_v4,hk,hap_v4_g,hap_v4_n2,hap_v4_n14,-⟩;have q4:=T4;have ql4:=Fq ho_v4;refine gS (Ad7 T0 (gS (Ad6 sha6_fo226_3 rfl (gS (Aax Vx rfl rfl (cellAt c (hashL_size hs hr)) (gS (AaT GR (AaF (Aa5 ho_v4) T4) (gS (Aaz (xv:=NI N) (yv:=NI ((128 :: Afk k 0:AlJ).length)) rfl rfl rfl (Ah _ _ _ (by simp;omega)) (gS (Aaz (xv:=NI ((N)+((128 :: Afk k 0:AlJ).length))) (yv:=NI 64) rfl rfl rfl (HM _ _ _ (by omega)) (gS (Aay (a:=(((N)+((128 :: Afk k 0:AlJ).length))%(64):Nat)) (b:=(56:Nat)) rfl rfl (AV _ _ _ _) ?_)))))))))))));refine cD rfl (fun bb=> ?_) fun bb=> ?_
 ·refine gS (AbR (b:=0) S7 (vr (B8 (0)) rfl) fun bp cb al=> ?_);have c3:=hE.size;have c4:=m.size;have c5:=q.size;have cc:Ai v4 bp:=D7 ho_v4 al.own;have bc:=al.own;have q:=q.trans al.ext;have ho_v4:=Aed _ _ _ _ _ _ _ _ ho_v4 al.ext;refine gS (Abc _ _ af.heap.size (.int .u8 0) GR NU rfl GR (128 :: Afk k 0) ([(0:UInt8)]) (Dd ho_v4 T4) (AaF (Aa5 bc) (vr bp rfl)) (by simp;omega) q.size fun ax cd bq ac=> ?_);have ac:Grew cb cd v4 ax:= .eqv T4 ac;have c:=eb al.ext c;have ce:OB ax g:=Ap ac hap_v4_g (bl c);have h:=eb al.ext h;have cf:OB ax n2:=Ap ac hap_v4_n2 (bl h);have o:=eb al.ext o;have cg:OB ax y:=Ap ac hap_v4_n14 (bl o);have c:=Aq c ac hap_v4_g;have hE:=hE.trans al.ext;have hE:=As hE ac ho_v4 bm;have h:=Aq h ac hap_v4_n2;have m:=m.trans al.ext;have m:=As m ac ho_v4 bn;have o:=Aq o ac hap_v4_n14;have q:=As q ac ho_v4 (Ae8 _);have bc:=DK bc ac cc;clear ho_v4;refine gK (AfF ⟨k+1,ax,T0,T2,T3,ao,rfl,c,hE,h,m,o,q,DB bq (by simp[List.replicate_succ']),by simp at bb;omega,ce,cf,cg,trivial⟩ ?_);show 65-BO (ax)<65-BO (b9 4);rw[q4];have qn:=Fq bq;rw[qn,ql4];simp;omega
 refine gS (Ad7 T0 (gS (Ad6 sha6_fo226_3 rfl (gS (Aax Vx rfl rfl (cellAt c (hashL_size hs hr)) (gS (Abp Vx Ll rfl (Kr (N) (by omega)) (gS (Aaz (xv:= .int .u64 ((N:Nat):Int)) (yv:= .int .u64 ((8:Nat):Int)) rfl rfl rfl (X2 _ _ _ (by omega)) ?_)))))))));obtain⟨Z,hZ⟩:∃Z,Z=(128:UInt8) :: Afk k 0:=⟨_,rfl⟩;have ho_v4:ca.ownsRow af.heap.size 5 1 v4 (Z:AlJ).length (Ae4 (Z)):=(hZ.symm:128 :: Afk k 0=Z)▸ho_v4;have hZl:Z.length=1+k:=by rw[hZ];simp;omega
 refine gL (fun(ρ:Ae) (wz:Ae3)=>∃i:Nat,∃z:Ae2,ρ 0=(PQ g 0:Ae2)/\ρ 2=(PQ n2 0:Ae2)/\ρ 3=(PQ y 0:Ae2)/\ρ 5=(.int .u64 (((N)*(8):Nat):Int):Ae2)/\ρ 11=(.bool (false):Ae2)/\ρ 36=(NI i:Ae2)/\ρ 4=(z:Ae2)/\wz.heap[g]? =some (.cells (hashL s r f N).toArray 226 (0,0))/\Ext w wz/\wz.heap[n2]? =some (.cells (Ae4 (Afk 32 0)).toArray 33 (0,0))/\Ext w3 wz/\wz.heap[y]? =some (.cells (hashL s r f N).toArray 226 (0,0))/\Ext af wz/\wz.ownsRow af.heap.size 5 1 z (Z++(Sha.be64 (8*N)).take i:AlJ).length (Ae4 (Z++(Sha.be64 (8*N)).take i))/\(i<=8)/\(OB z g)/\(OB z n2)/\(OB z y)/\True) (fun ρ _=>8-(intOf (ρ 36)).toNat) ⟨0,v4,T0,T2,T3,rfl,ao,rfl,T4,c,hE,h,m,o,q,DB ho_v4 (by simp),by omega,hap_v4_g,hap_v4_n2,hap_v4_n14,trivial⟩ ?_;clear ho_v4;clear c hE h m o q;rintro ch ci ⟨i,z,T0,T2,T3,T5,ao,ap,T4,c,hE,h,m,o,q,n,hi,hap_v5_g,hap_v5_n2,hap_v5_n14,-⟩;have q36:=ap;have ql4:=Fq n;refine gS (Aay (a:=(i:Nat)) (b:=(8:Nat)) ap rfl (AE _ _ _ _) ?_);refine cD rfl (fun br=> ?_) fun br=> ?_
 ·refine gS (Aaz (xv:=NI 8) (yv:=NI i) rfl ap rfl (Cy _ _ _ (by omega)) (gS (Aaz (xv:=NI 56) (yv:=NI ((8)*(i))) rfl rfl rfl (BL _ _ _ (by omega) (by omega)) (gS (Aaz (xv:= .int .u64 (((N)*(8):Nat):Int)) (yv:=NI ((56)-((8)*(i)))) T5 rfl rfl (X4 _ _ _ _ (by omega)) (gS (Abp Ll u5 rfl (HN (((N)*(8))/2^((56)-((8)*(i))))) (gS (AbR (b:=UInt8.ofNat (((N)*(8))/2^((56)-((8)*(i))))) S7 (vr (B8 (UInt8.ofNat (((N)*(8))/2^((56)-((8)*(i)))))) rfl) fun bs cj am=> ?_)))))))));have c6:=hE.size;have c7:=m.size;have c8:=q.size;have ck:Ai z bs:=D7 n am.own;have bd:=am.own;have q:=q.trans am.ext;have n:=Aed _ _ _ _ _ _ _ _ n am.ext;refine gS (Abc _ _ af.heap.size (.int .u8 0) GR NU rfl GR (Z++(Sha.be64 (8*N)).take i) ([(UInt8.ofNat (((N)*(8))/2^((56)-((8)*(i)))):UInt8)]) (Dd n T4) (AaF (Aa5 bd) (vr bs rfl)) (by simp[Sha.be64];omega) q.size fun a1 cl cm ad=> ?_);have ad:Grew cj cl z a1:= .eqv T4 ad;have c:=eb am.ext c;have cn:OB a1 g:=Ap ad hap_v5_g (bl c);have h:=eb am.ext h;have co:OB a1 n2:=Ap ad hap_v5_n2 (bl h);have o:=eb am.ext o;have cp:OB a1 y:=Ap ad hap_v5_n14 (bl o);have c:=Aq c ad hap_v5_g;have hE:=hE.trans am.ext;have hE:=As hE ad n bm;have h:=Aq h ad hap_v5_n2;have m:=m.trans am.ext;have m:=As m ad n bn;have o:=Aq o ad hap_v5_n14;have q:=As q ad n (Ae8 _);have bd:=DK bd ad ck;clear n;refine gS (Aaz (xv:=NI i) (yv:=NI 1) ap rfl rfl (Ah _ _ _ (by omega)) (gK (AfF ⟨i+1,a1,T0,T2,T3,T5,ao,rfl,rfl,c,hE,h,m,o,q,DB cm (by rw[AcC _ _ br,AfH,Nat.mul_comm N 8]),by omega,cn,co,cp,trivial⟩ ?_)));show 8-(intOf (NI ((i)+(1)))).toNat<8-(intOf (ch 36)).toNat;rw[q36];simp only[intOf,Afg];omega
 obtain⟨Q,hQ⟩:∃Q,Q=Z++(Sha.be64 (8*N)).take i:=⟨_,rfl⟩;have n:ci.ownsRow af.heap.size 5 1 z (Q:AlJ).length (Ae4 (Q)):=(hQ.symm:Z++(Sha.be64 (8*N)).take i=Q)▸n;have hQt:Q=Sha.tail p.length:=by simp at bb;rw[hQ,hZ,show i=8 by omega,show k=(119-p.length%64)%64 by omega,AfU (by simp[Sha.be64]),<-hN];simp[Sha.tail]
 have hQl:Q.length<=100:=by rw[hQ];simp[Sha.be64];omega
 refine gS (AaA Tu T3 T4 ((MR _ (hG.keep hE) y (by omega) p ⟨s,r,hat,by rw[<-hf,hN];exact o⟩ z Q (Aa5 n) hap_v5_n14 (by omega)).mono ?_));rintro e bt ⟨rfl,⟨s2,r2,hat2,t⟩,a2⟩;refine⟨_,rfl,?_⟩;have c:=kb a2 c (by omega);have hE:=Ab hE a2 (Ae7 bj (by omega));have h:=kb a2 h (by omega);have m:=Ab m a2 (Ae7 (Ae8 _) (by omega));clear q;have n:=BT n a2 hap_v5_n14;clear o;have ae:=hat2.slen;have c9:=hat2.len;refine gS (Ad9 VA fun a7 cq be bu aq da=> ?_);have u:=Ad4 bt;have a8:=hE.size;have a9:=m.size;have db:=Av (bl c) be;have dc:=Av (bl h) be;have dd:=Av (bl t) be;have ba:OB z a7:=A4 n (by omega);have bv:=bu;clear bu;have de:a7<cq.heap.size:=by omega
 have c:=eb aq c;have hE:=hE.trans aq;have h:=eb aq h;have m:=m.trans aq;have n:=Aed _ _ _ _ _ _ _ _ n aq;have t:=eb aq t;have u:=u.trans aq;refine gS (Ad6 Jh T3 (gS (Abi (cs:=s2.map fun x=>U x) rfl (J9 t) AW rfl (by rw[Afu,ae];exact Ei) (gL (fun(ρ:Ae) (wz:Ae3)=>∃j:Nat,ρ 0=(PQ g 0:Ae2)/\ρ 2=(PQ n2 0:Ae2)/\ρ 3=(PQ y 0:Ae2)/\ρ 4=(z:Ae2)/\ρ 5=(.int .u64 (((N)*(8):Nat):Int):Ae2)/\ρ 7=(PQ a7 0:Ae2)/\ρ 11=(.bool (false):Ae2)/\ρ 36=(NI i:Ae2)/\ρ 52=(.agg (s2.map fun x=>U x).toArray:Ae2)/\ρ 53=(NI j:Ae2)/\wz.heap[g]? =some (.cells (hashL s r f N).toArray 226 (0,0))/\Ext w wz/\wz.heap[n2]? =some (.cells (Ae4 (Afk 32 0)).toArray 33 (0,0))/\Ext w3 wz/\wz.ownsRow af.heap.size 5 1 z (Q:AlJ).length (Ae4 (Q))/\wz.heap[y]? =some (.cells (hashL s2 r2 ((p++Q).length%64) (p++Q).length).toArray 226 (0,0))/\Ext bt wz/\wz.heap[a7]? =some (.cells (Ae4 (Sha.outs s2 j)).toArray 33 (0,0))/\(j<=8)/\True) (fun ρ _=>8-(intOf (ρ 53)).toNat) ⟨0,T0,T2,T3,T4,T5,rfl,ao,ap,rfl,rfl,c,hE,h,m,n,t,u,A5 bv (rfl),by omega,trivial⟩ ?_))));clear bv;clear c hE h m n t u;rintro cr df ⟨j,T0,T2,T3,T4,T5,T7,ao,ap,bw,an,c,hE,h,m,n,t,u,hb128l,hj,-⟩;have q53:=an;refine gS (Aay (a:=(j:Nat)) (b:=(8:Nat)) an rfl (AE _ _ _ _) ?_);refine cD rfl (fun bx=> ?_) fun bx=> ?_
 ·refine gS (AcX (l:=s2) (i:=j) AW AL rfl AO bw an (by omega) (ae) (gS (Aaz (xv:=NI 4) (yv:=NI j) rfl an rfl (Cy _ _ _ (by omega)) (gS (Aaz (xv:=NI 4) (yv:=NI j) rfl an rfl (Cy _ _ _ (by omega)) (gS (Aaz (xv:=NI ((4)*(j))) (yv:=NI 1) rfl rfl rfl (Ah _ _ _ (by omega)) (gS (Aaz (xv:=NI 4) (yv:=NI j) rfl an rfl (Cy _ _ _ (by omega)) (gS (Aaz (xv:=NI ((4)*(j))) (yv:=NI 2) rfl rfl rfl (Ah _ _ _ (by omega)) (gS (Aaz (xv:=NI 4) (yv:=NI j) rfl an rfl (Cy _ _ _ (by omega)) (gS (Aaz (xv:=NI ((4)*(j))) (yv:=NI 3) rfl rfl rfl (Ah _ _ _ (by omega)) (gS (Aaz rfl rfl rfl (JP _ _ _ 24 (by decide)) (gS (AbX AL u5 rfl (gS (Aaz rfl rfl rfl (JP _ _ _ 16 (by decide)) (gS (AbX AL u5 rfl (gS (Aaz rfl rfl rfl (JP _ _ _ 8 (by decide)) (gS (AbX AL u5 rfl (gS (AbX AL u5 rfl (gS (Aa1 (i:=(4)*(j)) XM Rg T7 rfl (by omega) ?_)))))))))))))))))))))))))))))));refine gS (AbN (i:=(4)*(j)) (v:=((s2.getD (j) 0)>>>24).toUInt8) rfl rfl hb128l (by rw[Sha.outs_length _ ae _ (by omega)];omega) Zy fun dh bz ar di=> ?_);have c:=kb ar c (by omega);have hE:=Ab hE ar (Ae7 a8 (by omega));have h:=kb ar h (by omega);have m:=Ab m ar (Ae7 a9 (by omega));have n:=BT n ar ba;have t:=kb ar t (by omega);have u:=Ab u ar (Ae7 (Ae8 _) (by omega));clear hb128l;have hb128l:=bz;clear bz;have dj:=bl hb128l;refine gS (Aa1 (i:=((4)*(j))+(1)) XM Rg T7 rfl (by omega) (gS (AbN (i:=((4)*(j))+(1)) (v:=((s2.getD (j) 0)>>>16).toUInt8) rfl rfl hb128l (by rw[AgW,Sha.outs_length _ ae _ (by omega)];omega) Zy fun dk b0 au dl=> ?_)));have c:=kb au c (by omega);have hE:=Ab hE au (Ae7 a8 (by omega));have h:=kb au h (by omega);have m:=Ab m au (Ae7 a9 (by omega));have n:=BT n au ba;have t:=kb au t (by omega);have u:=Ab u au (Ae7 (Ae8 _) (by omega));clear hb128l;have hb128l:=b0;clear b0;have dm:=bl hb128l;refine gS (Aa1 (i:=((4)*(j))+(2)) XM Rg T7 rfl (by omega) (gS (AbN (i:=((4)*(j))+(2)) (v:=((s2.getD (j) 0)>>>8).toUInt8) rfl rfl hb128l (by rw[AgW,AgW,Sha.outs_length _ ae _ (by omega)];omega) Zy fun dn b1 av dp=> ?_)));have c:=kb av c (by omega);have hE:=Ab hE av (Ae7 a8 (by omega));have h:=kb av h (by omega);have m:=Ab m av (Ae7 a9 (by omega));have n:=BT n av ba;have t:=kb av t (by omega);have u:=Ab u av (Ae7 (Ae8 _) (by omega));clear hb128l;have hb128l:=b1;clear b1;have dq:=bl hb128l;refine gS (Aa1 (i:=((4)*(j))+(3)) XM Rg T7 rfl (by omega) (gS (AbN (i:=((4)*(j))+(3)) (v:=(s2.getD (j) 0).toUInt8) rfl rfl hb128l (by rw[AgW,AgW,AgW,Sha.outs_length _ ae _ (by omega)];omega) Zy fun dr b2 aw ds=> ?_)));have c:=kb aw c (by omega);have hE:=Ab hE aw (Ae7 a8 (by omega));have h:=kb aw h (by omega);have m:=Ab m aw (Ae7 a9 (by omega));have n:=BT n aw ba;have t:=kb aw t (by omega);have u:=Ab u aw (Ae7 (Ae8 _) (by omega));clear hb128l;have hb128l:=b2;clear b2;have dt:=bl hb128l;refine gS (Aaz (xv:=NI j) (yv:=NI 1) an rfl rfl (Ah _ _ _ (by omega)) (gK (AfF ⟨j+1,T0,T2,T3,T4,T5,T7,ao,ap,bw,rfl,c,hE,h,m,n,t,u,A5 hb128l (congrArg Ae4 (Sha.outs_step s2 ae j bx)),by omega,trivial⟩ ?_)));show 8-(intOf (NI ((j)+(1)))).toNat<8-(intOf (cr 53)).toNat;rw[q53];simp only[intOf,Afg];omega
 refine gS (AaC T7 hb128l XM rfl (by rw[Afr,Afl,Sha.outs_length _ ae _ (by omega)];exact SY) (gS (AaB T2 (vr (AB (Sha.outs s2 j)) rfl) h (by rw[Afr,Afl,Sha.outs_length _ ae _ (by omega)];rfl) (by rw[Afr,Afl,Sha.outs_length _ ae _ (by omega)];exact SY) (Ag _) fun du b3 a3 dv=> ?_)));have c:=kb a3 c (by omega);have hE:=Ab hE a3 (Ae7 (Ae8 _) (by omega));clear m;have n:=BT n a3 hap_v5_n2;have t:=kb a3 t (by omega);clear u;have hb128l:=kb a3 hb128l (by omega);clear h;have h:=b3;clear b3;have dw:=bl h;refine MG rfl (Aee T2 h XM rfl (by rw[Afr,Afl,Sha.outs_length _ ae _ (by omega)];exact SY)) ?_;refine⟨?_,hE⟩;have e:Sha.outs s2 j=Sha.sum p:=by rw[show j=8 by omega,Sha.outs_all s2 ae,hat2.state,hQt];rfl
 rw[e]
theorem HashAt.other{w w' :Ae3}{g b:Nat}{p:AlJ}(h:HashAt w g p)(hg:w.grownBy w' (some b))(hne:g≠b):HashAt w' g p:=by
 obtain⟨s,r,h1,h2⟩:=h;exact⟨s,r,h1,(hg.block g (bl h2) (by simpa using hne)).trans h2⟩
theorem Ji(ls:List AlJ)(i:Nat)(hi:i<ls.length):(ls.take (i+1)).flatten=(ls.take i).flatten++ls.getD i []:=by
 rw[Afv hi,Ale];simp[hi]
theorem Lm(ls:List AlJ)(i:Nat)(hi:i<ls.length):(ls.take i).flatten.length+(ls.getD i []).length<=ls.flatten.length:=by
 have h1:=Ji ls i hi;have h2:ls.flatten=(ls.take (i+1)).flatten++(ls.drop (i+1)).flatten:=by rw[<-Ale,List.take_append_drop]
 rw[h2,h1];simp only[Ae9];omega
theorem Tw:Plain Ae5 81:=fun _ _=>by kernel_rfl
theorem MS:Tryz.prog.underlying 38=some (.slice 27):=by kernel_rfl
theorem Tx:∀w' :Ae3,(sizeOf 27).run Ae5 w' = .ok 1 w' :=fun _=>by kernel_rfl
theorem Ty:Plain Ae5 83:=fun _ _=>by kernel_rfl
theorem L9(w:Ae3)(g:Nat)(p:AlJ)(hH:HashAt w g p)(v:Ae2)(hc:RB w v [])(hb:p.length<4611686018427387904):
  Calls Ae5 82 #[PQ g 0,v] w fun e w' =>e = .returned (.tuple #[])/\HashAt w' g p/\w.grownBy w' (some g):=by
 obtain⟨s,r,hat,c⟩:=hH;have hs:=hat.slen;have hr:=hat.len;obtain⟨f,hf⟩:∃f,f=p.length%64:=⟨_,rfl⟩;rw[<-hf]at c;have hgr:w.grownBy w (some g):=World.grownBy.refl _ _;refine gG (args:= [PQ g 0,v]) Tryz.func82 rfl 60 rfl rfl (gS (Aa8 sha6_ty147 rfl (cF rfl (gS (Ad7 rfl (gS (Ad6 sha6_fo226_3 rfl (gS (Aax Vx rfl rfl (cellAt c (hashL_size hs hr)) (gS (AaT GR (AaF hc rfl) (gS (Aaz (xv:=NI p.length) (yv:=NI ((([]:AlJ):AlJ).length)) rfl rfl rfl (Ah _ _ _ (by simp;omega)) (gS (Ad7 rfl (gS (Ad6 sha6_fo226_3 rfl (gS (Aa0 (i:=73) (v:=NI ((p.length)+((([]:AlJ):AlJ).length))) rfl rfl c (by rw[CJ hs hr];omega) Oj rfl rfl fun h j k m=> ?_)))))))))))))))))));have hc:RB h v ([]:AlJ):=Adh hc;have hgr:w.grownBy h (some g):=Am hgr k (fun _ e=> .inl e);clear c;have c:=j;clear j;have n:=bl c;have c:h.heap[g]? =some (.cells (hashL s r f p.length).toArray 226 (0,0)):=A5 c (IO hs hr);refine gL (fun(ρ:Ae) (wz:Ae3)=>ρ 0=(PQ g 0:Ae2)/\ρ 6=(.bool (false):Ae2)/\ρ 1=(v:Ae2)/\RB wz v ([]:AlJ)/\w.grownBy wz (some g)/\wz.heap[g]? =some (.cells (hashL s r f p.length).toArray 226 (0,0))/\True) (fun ρ _=>0) ⟨rfl,rfl,rfl,hc,hgr,c,trivial⟩ ?_;clear hc hgr c;rintro o q ⟨t,u,l,hc,hgr,c,-⟩;refine gS (AaT GR (AaF hc l) (gS (Aay (a:=((([]:AlJ):AlJ).length:Nat)) (b:=(0:Nat)) rfl rfl (Bj _ _ _ _) (cF ((rfl).trans (congrArg Value.bool (decide_eq_false (by simp)))) (rt0 rfl ?_)))));exact⟨rfl,⟨s,r,hat,by rw[<-hf];exact c⟩,hgr⟩
theorem Tz(w:Ae3)(hG:Laid w)(g:Nat)(hh:1<g)(p:AlJ)(hH:HashAt w g p)(v:Ae2)(c:AlJ)(hc:RB w v c)(hv:0<c.length->v.ownBlock≠some g)(hb:p.length+c.length<4611686018427387904):
  Calls Ae5 82 #[PQ g 0,v] w fun e w' =>e = .returned (.tuple #[])/\HashAt w' g (p++c)/\w.grownBy w' (some g):=by
 by_cases h0:0<c.length
 ·exact MR w hG g hh p hH v c hc (hv h0) hb
 ·have:c= []:=List.eq_nil_of_length_eq_zero (by omega);subst this;rw[AgG];exact L9 w g p hH v hc (by simpa using hb)
theorem QC(w:Ae3)(hG:Laid w)(v:Ae2)(ls:List AlJ)(hls:RBs w v ls)(hb:ls.flatten.length<1152921504606846976)(hlen:ls.length<1152921504606846976):
   Calls Ae5 45 #[v] w fun e w' =>e = .returned (AB (Sha.sum ls.flatten))/\Ext w w' :=by
 have hw2:1<w.heap.size:=hG.two;refine gG (args:= [v]) Tryz.func45 rfl 19 rfl rfl ?_;have hE:=Ad4 w;refine gS (Ad9 VA fun g j ag p aa ah=> ?_);have c:=p;clear p;have ai:g<j.heap.size:=by omega
 have hE:=hE.trans aa;refine gS (Acv Tw ((Yd _ (hG.keep hE)).mono ?_));rintro e aj ⟨gH,rfl,q,r,k⟩;refine⟨_,rfl,?_⟩;have f:=Ad4 j;have ab:=hE.size;have ak:g<gH:=by have:=(bl c);omega
 have hE:=hE.trans k;have c:=eb k c;have f:=f.trans k;refine gS (Adj MS (AdZ (hls.keep hE) rfl) (gL (fun(ρ:Ae) (wz:Ae3)=>∃i:Nat,ρ 0=(v:Ae2)/\ρ 2=(PQ g 0:Ae2)/\ρ 3=(PQ gH 0:Ae2)/\ρ 7=(v:Ae2)/\ρ 8=(NI ls.length:Ae2)/\ρ 9=(NI i:Ae2)/\Ext w wz/\wz.heap[g]? =some (.cells (Ae4 (Afk 32 0)).toArray 33 (0,0))/\Ext j wz/\HashAt wz gH ((ls.take i).flatten)/\(i<=ls.length)/\True) (fun ρ _=>ls.length-(intOf (ρ 9)).toNat) ⟨0,rfl,rfl,rfl,rfl,rfl,rfl,hE,c,f,by simpa using r,AfC _,trivial⟩ ?_));clear r;clear hE c;rintro ac al ⟨i,T0,l,m,s,t,h,hE,c,f,hHi,hi,-⟩;have q9:=h;refine gS (Aay (a:=(i:Nat)) (b:=(ls.length:Nat)) h t (AE _ _ _ _) ?_);refine cD rfl (fun hi3=> ?_) fun hi3=> ?_
 ·refine gS (Adi (ls:=ls) (i:=i) hE MS Tx hls s h (hi3) fun am ae u x=>(gS (AaY GR rfl (Aa7 u rfl) ?_)));clear u;refine gS (AaA Tu m rfl ((Tz _ (hG.keep hE) gH (by omega) ((ls.take i).flatten) hHi ae (ls.getD (i) []) (x.keep hE) (fun h0 hb=>by have:=RB.lt x h0 hb;omega) (by have:=Lm ls i hi3;omega)).mono ?_));rintro e an ⟨rfl,af,n⟩;refine⟨_,rfl,?_⟩;clear hHi;have hE:=Ab hE n (Ae7 ab q);have c:=kb n c (by omega);have f:=Ab f n (Ae7 (Ae8 _) q);refine gS (Aaz (xv:=NI i) (yv:=NI 1) h rfl rfl (Ah _ _ _ (by have:=hlen;omega)) (gK (AfF ⟨i+1,T0,l,m,s,t,rfl,hE,c,f,(show HashAt _ _ _ from by rw[Ji ls i hi3];exact af),by omega,trivial⟩ ?_)));show ls.length-(intOf (NI ((i)+(1)))).toNat<ls.length-(intOf (ac 9)).toNat;rw[q9];simp only[intOf,Afg];omega
 have hfl:(ls.take i).flatten=ls.flatten:=by rw[AfU (by omega)]
 have hfl2:=congrArg List.length hfl;refine gS (AaE Ty m ((Tv _ (hG.keep hE) gH ((ls.take i).flatten) hHi (by omega)).mono ?_));rintro e ao ⟨rfl,o⟩;refine⟨_,rfl,?_⟩;have c:=eb o c;refine gS (AaB l (vr (AB (Sha.sum ((ls.take i).flatten))) rfl) c (by rw[Afr,Afl,Sha.sum_length];rfl) (by rw[Afr,Afl,Sha.sum_length];exact SY) (Ag _) fun ap y z aq=> ?_);clear f;have hHi:=hHi.keep o;have hHi:=HashAt.other hHi z (by omega);clear c;have c:=y;clear y;have ar:=bl c;refine MG rfl (Aee l c XM rfl (by rw[Afr,Afl,Sha.sum_length];exact SY)) ?_;rw[hfl];have hE:=hE.trans o;have hE:=Ab hE z (Ae7 (Ae8 _) (by omega));exact⟨rfl,hE⟩
namespace Sha
end Sha
structure Pt where
 v:Ae2
 bytes:Bs
 base:Int
def AD:Pt:=⟨.slice none 0 0,[],0⟩
def partC(p:Pt):List Ae2:= [p.v, .int .i64 p.base]
def Ma(w:Ae3)(ps:List Pt):Prop:=∀p∈ps,RB w p.v p.bytes /\ -9223372036854775808<=p.base/\p.base<=9223372036854775807
theorem partC_one{p:Pt}(h:p.v.cells = #[p.v]/\p.v.oneCell' =true):∀u∈partC p,u.oneCell' =true:=by
 intro u hu;simp only[partC,AfT,List.not_mem_nil,or_false]at hu;rcases hu with rfl | rfl
 ·exact h.2
 ·rfl
structure BS where
 b:Bs
 ids:List Bs
 places:List Nat
 depths:List Nat
 total:Nat
def Bw(s:Bs):Bs:=Afq s.length++s
def DC(p:Pt)(s:BS):Nat:=if p.base<0 then 0 else s.depths.getD p.base.toNat 0+1
def bnext(ps:List Pt)(p:Pt)(s:BS):BS:=
  { b:=if p.base<0 then s.b++ [0]++Bw p.bytes else s.b++ [1]++s.ids.getD p.base.toNat []++Bw (Cc (ps.getD p.base.toNat AD).bytes p.bytes)
    ids:=s.ids++ [Sha.sum p.bytes],places:=s.places++ [s.b.length],depths:=s.depths++ [DC p s],total:=s.total+p.bytes.length }
def E6(ps:List Pt)(i:Nat)(s:BS):Except Nat BS:=
 if(ps.getD i AD).base < -1\/(i:Int)<=(ps.getD i AD).base then .error 1
 else if Sha.sum (ps.getD i AD).bytes∈s.ids then .error 11
 else if 50<DC (ps.getD i AD) s then .error 17
 else .ok (bnext ps (ps.getD i AD) s)
def C7(ps:List Pt):Nat->Except Nat BS
 | 0=> .ok ⟨80 :: Afq ps.length,[],[],[],0⟩
 | i+1=>match C7 ps i with
  | .error e=> .error e
  | .ok s=>E6 ps i s
theorem FU{ps:List Pt}{e:Nat}:∀ {i:Nat} (_:C7 ps i = .error e) (k:Nat),C7 ps (i+k) = .error e
 | _,h,0=>h
 | i,h,k+1=>by
  show(match C7 ps (i+k)with | .error e=>_ | .ok s=>_)=_;rw[FU h k]
theorem Fc{ps:List Pt}{i:Nat}{s:BS}(h:C7 ps i = .ok s):C7 ps (i+1)=E6 ps i s:=by
 show(match C7 ps i with | .error e=>_ | .ok s=>_)=_;rw[h]
def Bz(s:BS)(id:Bs):Option Nat:=(s.ids.zip s.places).lookup id
def CB(ps:List Pt):Prop:=ps.length<=60/\∀p∈ps,p.bytes.length<=200
structure BOk (i : Nat) (s : BS) : Prop where
 ids:s.ids.length=i
 places:s.places.length=i
 depths:s.depths.length=i
 len:∀id∈s.ids,id.length=32
 b:s.b.length<=10+500*i
 pl:∀p∈s.places,p<=10+500*i
 dp:∀d∈s.depths,d<=50
 total:s.total<=200*i
theorem XN{n:Nat}(h:n<16384):(Afq n).length<=2:=by
 by_cases h1:n<128
 ·rw[Ait h1];simp
 ·rw[Lib.uvarint_big (by omega),Ait (by omega)];simp
theorem C8{α β:Type}[BEq α][LawfulBEq α]:∀(l:List α) (m:List β) (x:α),x∉l->(l.zip m).lookup x=none
 | [],_,_,_=>by simp
 | _ :: _,[],_,_=>by simp
 | a :: l,b :: m,x,h=>by
  simp only[AfT,not_or]at h;rw[Ahi,AgH,C8 l m x h.2];have:(x==a)=false:=by simpa using h.1
  rw[this]
theorem Ep{α β:Type}[BEq α][LawfulBEq α]:∀(l:List α) (m:List β) (x:α),l.length=m.length->x∈l->∃y,(l.zip m).lookup x=some y/\y∈m
 | [],_,_,_,h=>by simp at h
 | _ :: _,[],_,h,_=>by simp at h
 | a :: l,b :: m,x,hl,h=>by
  rw[Ahi,AgH];by_cases e:x=a
  ·subst e;exact⟨b,by simp,by simp⟩
  ·have:(x==a)=false:=by simpa using e
   rw[this];obtain⟨y,h1,h2⟩:=Ep l m x (by simpa using hl) ((AfT.1 h).resolve_left e);exact⟨y,h1,by simp[h2]⟩
theorem Hg{α β:Type}[BEq α][LawfulBEq α][DecidableEq α]:∀(l:List α) (m:List β) (a:α) (b:β),l.length=m.length->a∉l->(fun x=>((l++ [a]).zip (m++ [b])).lookup x)=updM (fun x=>(l.zip m).lookup x) a (some b)
 | [],[],a,b,_,_=>by
  funext x
  unfold updM;simp only[Af6,Ahi,List.zip_nil_left,AgH,List.lookup_nil];by_cases e:x=a
  ·simp[e]
  ·have:(x==a)=false:=by simpa using e
   simp[e,this]
 | [],_ :: _,_,_,h,_=>by simp at h
 | _ :: _,[],_,_,h,_=>by simp at h
 | c :: l,d :: m,a,b,hl,h=>by
  simp only[AfT,not_or]at h;have ih:=Hg l m a b (by simpa using hl) h.2
  funext x
  have ihx:=congrFun ih x;unfold updM at ihx ⊢;simp only[Af4,Ahi,AgH,ihx];by_cases e:x=a
  ·subst e;have:(x==c)=false:=by simpa using h.1
   simp[this]
  ·simp[e]
theorem Jj{ps:List Pt}{p:Pt}{i:Nat}{s:BS}(h:BOk i s)(hn:Sha.sum p.bytes∉s.ids):Bz (bnext ps p s)=updM (Bz s) (Sha.sum p.bytes) (some s.b.length):=by
 have:=Hg s.ids s.places (Sha.sum p.bytes) s.b.length (by rw[h.ids,h.places]) hn;exact this
theorem BOk.next{ps:List Pt}{i:Nat}{s:BS}(hL:CB ps)(h:BOk i s)(hi:i<ps.length){s' :BS}(hs:E6 ps i s=Except.ok s'):BOk (i+1) s' :=by
 unfold E6 at hs;split at hs
 ·cases hs
 ·split at hs
  ·cases hs
  ·split at hs
   ·cases hs
   ·rename_i h1 h2 h3
    cases hs;have hp:=hL.2 _ (getD_mem AD hi);refine⟨by simp[bnext,h.ids],by simp[bnext,h.places],by simp[bnext,h.depths],?_,?_,?_,?_,?_⟩
    ·intro id hid;simp only[bnext,Afy,Afh]at hid;rcases hid with hid | rfl
     ·exact h.len id hid
     ·exact Sha.sum_length _
    ·have hb:=h.b;have hu:=XN (n:=(ps.getD i AD).bytes.length) (by omega);simp only[bnext];split
     ·simp only[Ae9,AfA,AfK,Bw];omega
     ·rename_i hbase
      have a:(ps.getD i AD).base.toNat<s.ids.length:=by rw[h.ids];omega
      have h32:=h.len _ (getD_mem [] a);have hq:=hL.2 _ (getD_mem AD (l:=ps) (i:=(ps.getD i AD).base.toNat) (by rw[h.ids]at a;omega));have hm:=Je (ps.getD (ps.getD i AD).base.toNat AD).bytes (ps.getD i AD).bytes (by omega) (by omega);have c:=XN (n:=(Cc (ps.getD (ps.getD i AD).base.toNat AD).bytes (ps.getD i AD).bytes).length) (by omega);simp only[Ae9,AfA,AfK,Bw,h32];omega
    ·intro q hq;have hb:=h.b;simp only[bnext,Afy,Afh]at hq;rcases hq with hq | rfl
     ·have:=h.pl q hq;omega
     ·omega
    ·intro q hq;simp only[bnext,Afy,Afh]at hq;rcases hq with hq | rfl
     ·exact h.dp q hq
     ·omega
    ·have ht:=h.total;simp only[bnext];omega
theorem Jk{ps:List Pt}(hL:CB ps):∀(i:Nat) (s:BS),i<=ps.length->C7 ps i = .ok s->BOk i s
 | 0,s,_,h=>by
  cases h;have:=XN (n:=ps.length) (by have:=hL.1;omega);exact⟨rfl,rfl,rfl,by simp,by simp only[AfA];omega,by simp,by simp,by simp⟩
 | i+1,s,hi,h=>by
  have h' :(match C7 ps i with | .error e=> .error e | .ok s=>E6 ps i s)=Except.ok s:=h;cases hb:C7 ps i with
  | error e=>rw[hb]at h';cases h'
  | ok s0=>
   rw[hb]at h';exact(Jk hL i s0 (by omega) hb).next hL (by omega) h'
def CC(s:BS)(at_:Nat):Bs:=(Bf s.ids).flatMap Ba++(AR s.ids).flatMap (fun id=>id++Ba ((Bz s id).getD 0))++Ba at_
def A0(ps:List Pt):Bs × Nat:=
 match C7 ps ps.length with
 | .error e=>([],e)
 | .ok s=>(s.b++CC s s.b.length++Sha.sum (s.b++CC s s.b.length),0)
theorem Ln(l:List Nat):(l.flatMap Ba).length=4*l.length:=by
 induction l with
 | nil=>rfl
 | cons a r ih=>rw[Af3,Ae9,ih,He,AfA];omega
theorem Ov(f:Bs->Nat)(l:List Bs)(h:∀x∈l,x.length=32):(l.flatMap fun id=>id++Ba (f id)).length=36*l.length:=by
 induction l with
 | nil=>rfl
 | cons a r ih=>
  rw[Af3,Ae9,Ae9,He,h a (by simp),ih (fun x hx=>h x (by simp[hx])),AfA];omega
theorem HC{i:Nat}{s:BS}(h:BOk i s)(a:Nat):(CC s a).length=1028+36*i:=by
 unfold CC;rw[Ae9,Ae9,Ln,B4,Ov (fun id=>(Bz s id).getD 0) _ (fun x hx=>h.len x ((sortB_perm _).subset hx)),Gb,h.ids,He];omega
theorem Aaf:KeyLaw Ae5 33:=deep_law_laid (by kernel_rfl) (m:=3) (by decide) (of_decide_eq_true (by kernel_rfl)) (by kernel_rfl) (by kernel_rfl)
theorem Cu:KL Ae5 33 (fun v=>∃l,keyOf Ae5 33 v=some l):=Ado Aaf
theorem Cv:∀id:AlJ,id.length=32->∃l,keyOf Ae5 33 (rk id)=some l:=fun _ h=>
 MH (n:=32) (e:=5) Tryz.underlying33 AiI (by kernel_rfl) (by kernel_rfl) (by kernel_rfl) (of_decide_eq_true (by kernel_rfl)) h
theorem HU:∀u:Ae3,(zeroValue 3).run Ae5 u = .ok (NI 0) u:=fun _=>by kernel_rfl
theorem GJ(w:Ae3)(hG:Laid w)(v:Ae2)(l:Bs)(h:RBs w v [l])(hl:l.length<=1099511627776):
  Calls Ae5 45 #[v] w fun e w' =>e = .returned (AB (Sha.sum l))/\Ext w w' :=by
 have:=QC w hG v [l] h (by simp;omega) (by simp)
 simpa using this
theorem Ow(w:Ae3)(v:Ae2)(l:Bs)(hr:RB w v l)(s:Bs)(hl:l.length+s.length+16<=140737488355328):
  Calls Ae5 144 #[v,St s] w fun e w' =>∃v',e = .returned v' /\NewB 5 w w' v' (l++Bw s):=by
 have:=PO w v l hr ⟨s.toArray⟩ (by simpa [ByteArray.size] using hl)
 simpa [Bw,ByteArray.size,AfH] using this
theorem EK{ps:List Pt}{i e:Nat}(hi:i<ps.length)(h:C7 ps (i+1) = .error e):A0 ps=([],e):=by
 have:=FU h (ps.length-(i+1));rw[show i+1+(ps.length-(i+1))=ps.length by omega]at this;unfold A0;rw[this]
theorem TA{ps:List Pt}{s:BS}(h:C7 ps ps.length = .ok s):A0 ps=(s.b++CC s s.b.length++Sha.sum (s.b++CC s s.b.length),0):=by
 unfold A0;rw[h]
theorem Lo{α:Type}(l:List α)(i:Nat)(d:α)(h:i<l.length):l.take (i+1)=l.take i++ [l.getD i d]:=by rw[Afv h,Ae6,Afb h];rfl
theorem Lp:(Tryz.prog.info? 156).map (·.size)=some 2:=by kernel_rfl
theorem Gd:Tryz.prog.underlying 154=some (.slice 156):=by kernel_rfl
theorem TB:Plain Ae5 143:=fun _ _=>by kernel_rfl
theorem Lq:∀w' :Ae3,(sizeOf 156).run Ae5 w' = .ok 2 w' :=fun _=>by kernel_rfl
theorem TC:∃fs,Tryz.prog.underlying 156=some (.struct fs):=Fg (by kernel_rfl)
theorem TD{d:Option Tmp}{ty:Afa}{pos:String}{af:Array Edge}{gd:Option (Nat × Bool)}(σ:Aff->Ae2)(w:Ae3):(execOp σ ⟨d, .alloc 156,ty,pos,af,gd⟩).run Ae5 w = .ok (.value (PQ w.heap.size 0)) (w.alloc (.cells ([(Afc none 0 0),NI 0]).toArray 156)):=by kernel_rfl
theorem Cs:AZ Ae5 156 0 0:=fun b o w=>by simp[go_sem]
theorem B0:AZ Ae5 156 1 1:=fun b o w=>by simp[go_sem]
theorem GV(ao:Option Addr)(n c:Nat)(w:Ae3):(AfM 38 1 #[(0, .slice ao n c)]).run Ae5 w = .ok (.slice (some ⟨w.heap.size,0,none⟩) 1 1) (w.alloc (.cells #[.slice ao n c] 27)):=by kernel_rfl
theorem KB:Plain Ae5 45:=fun _ _=>by kernel_rfl
theorem Ey:Tryz.prog.underlying 233=some (.map 33 3):=by kernel_rfl
theorem Ox:∀(cs:Array Ae2),cs.size=32->∀w:Ae3,(AfM 42 1 #[(0, .agg cs)]).run Ae5 w = .ok (.slice (some ⟨w.heap.size,0,none⟩) 1 1) (w.alloc (.cells cs 33))
 | ⟨[c0,c1,c2,c3,c4,c5,c6,c7,c8,c9,c10,c11,c12,c13,c14,c15,c16,c17,c18,c19,c20,c21,c22,c23,c24,c25,c26,c27,c28,c29,c30,c31]⟩,_,w=>VB c0 c1 c2 c3 c4 c5 c6 c7 c8 c9 c10 c11 c12 c13 c14 c15 c16 c17 c18 c19 c20 c21 c22 c23 c24 c25 c26 c27 c28 c29 c30 c31 w
theorem QD:Tryz.prog.underlying 9=some (.string):=by kernel_rfl
theorem MT:Plain Ae5 144:=fun _ _=>by kernel_rfl
theorem TE:Plain Ae5 145:=fun _ _=>by kernel_rfl
theorem TF:Plain Ae5 132:=fun _ _=>by kernel_rfl
theorem Jl:Plain Ae5 146:=fun _ _=>by kernel_rfl
theorem VI:Plain Ae5 55:=fun _ _=>by kernel_rfl
theorem TG(w:Ae3)(hG:Laid w)(v:Ae2)(ps:List Pt)(hr:RG 2 partC w v ps)(hps:Ma w ps)(hL:CB ps):
  Calls Ae5 91 #[v] w fun e w' =>∃v',e = .returned (.tuple #[v',NI (A0 ps).2])/\w'.ownsRow w.heap.size 5 1 v' (A0 ps).1.length (Ae4 (A0 ps).1)/\Ext w w' :=by
 have hw2:=hG.two;have hL1:=hL.1;refine gG (args:= [v]) Tryz.func91 rfl 165 rfl rfl ?_;have hE:=Ad4 w;refine gS (AaW Gd (AaD hr rfl) (gS (AaE TB rfl ((S9 _ (ps.length) (by omega)).mono ?_))));rintro e w6 ⟨v3,rfl,bf,fj⟩;refine⟨_,rfl,?_⟩;refine gS (AbB rk NI (fun id:AlJ =>id.length=32) fun n8 w9 i7 b4 c9 i8=> ?_);have hE:=hE.trans fj;have da:=hE.size;have fk:OB v3 n8:=A4 bf (by omega);have i9:n8<w9.heap.size:=by omega
 have hids0:OG w.heap.size 33 32 Ae4 w9 (Afc none 0 0) ([]:List Bs):=Aem _ _ _ _ _;have fl:Afd (Afc none 0 0)≠some n8:=fun h=>by cases h
 have fm:Ai (Afc none 0 0) v3:=fun k h=>by cases h
 have fn:Ai v3 (Afc none 0 0):=fun k _ h=>by cases h
 have hE:=hE.trans c9;refine gS (AaW Gd (AaD (hr.keep hE) rfl) (gS (AdG 8 ML Aae rfl rfl (by omega) (by omega) fun ab fo fp db ch ja=> ?_)));have dc:=hE.size;have jb:=Av b4.lt fp;have bf:=Aed _ _ _ _ _ _ _ _ bf c9;have fq:OB v3 ab:=A4 bf (by omega);have fr:Afd (Afc none 0 0)≠some ab:=A4 hids0.2 (by omega);have dd:=db;clear db;have jc:ab<fo.heap.size:=by omega
 have hE:=hE.trans ch;have bf:=Aed _ _ _ _ _ _ _ _ bf ch;have b4:=b4.keep ch;have hids0:=hids0.keep ch;refine gS (AaW Gd (AaD (hr.keep hE) rfl) (gL (fun(ρ:Ae) (wz:Ae3)=>∃i:Nat,∃s:BS,∃vb:Ae2,∃vi:Ae2,ρ 0=(v:Ae2)/\ρ 5=(.map (some n8):Ae2)/\ρ 7=(.slice (some ⟨ab,0,none⟩) ps.length ps.length:Ae2)/\ρ 28=(v:Ae2)/\ρ 29=(NI ps.length:Ae2)/\ρ 30=(NI i:Ae2)/\ρ 8=(NI s.total:Ae2)/\ρ 4=(vb:Ae2)/\ρ 6=(vi:Ae2)/\Ext w wz/\wz.ownsRow w.heap.size 5 1 vb (s.b:AlJ).length (Ae4 (s.b))/\OG w.heap.size 33 32 (Ae4) wz vi (s.ids)/\MapF rk NI (fun id:AlJ =>id.length=32) wz n8 (Bz s)/\wz.heap[ab]? =some (.cells ((s.depths++Afk (ps.length-i) 0).map fun x=>NI x).toArray 3 (0,0))/\(C7 ps i = .ok s)/\(i<=ps.length)/\(OB vb n8)/\(Ai vb vi)/\(OB vb ab)/\(OB vi n8)/\(Ai vi vb)/\(OB vi ab)/\True) (fun ρ _=>ps.length-(intOf (ρ 30)).toNat) ⟨0,⟨80 :: Afq ps.length,[],[],[],0⟩,v3,(Afc none 0 0),rfl,rfl,rfl,rfl,rfl,rfl,rfl,rfl,rfl,hE,DB bf (rfl),Bd hids0 (rfl),Ci b4 (rfl),A5 dd (rfl),rfl,AfC _,fk,fn,fq,fl,fm,fr,trivial⟩ ?_));clear bf;clear b4;clear hids0;clear dd;clear hE;rintro de df ⟨i,s,vb,vi,T0,T5,T7,aq,ar,ad,T8,T4,T6,hE,hr_vb,hr_vi,hb11l,hb38l,hs,hi,hap_vb_n8,hap_vb_vi,hap_vb_n24,hap_vi_n8,hap_vi_vb,hap_vi_n24,-⟩;have q30:=ad;have hB:=Jk hL i s hi hs;have hBi:=hB.ids;have hBp:=hB.places;have hBd:=hB.depths;have hBb:=hB.b;have hBt:=hB.total;obtain⟨dl,hdl⟩:∃dl,dl=s.depths++Afk (ps.length-i) 0:=⟨_,rfl⟩;have hb38l:df.heap[ab]? =some (.cells (dl.map fun x=>NI x).toArray 3 (0,0)):=A5 hb38l (by rw[hdl]);have hdll:dl.length=ps.length:=by rw[hdl,Ae9,Afp];omega
 have hdg:∀m,m<i->dl.getD m 0=s.depths.getD m 0:=fun m hm=>by rw[hdl,Ae6,AfW (by omega),<-Ae6]
 refine gS (Aay (a:=(i:Nat)) (b:=(ps.length:Nat)) ad ar (AE _ _ _ _) ?_);refine cD rfl (fun ct=> ?_) fun ct=> ?_
 ·have hil:i<ps.length:=ct;obtain⟨p,hp⟩:∃p,p=ps.getD i AD:=⟨_,rfl⟩;have hpm:p∈ps:=by rw[hp];exact getD_mem AD hil
  have hpl:=hL.2 p hpm;have hpb:=(hps p hpm).2;have hpr:=(hps p hpm).1;have hst:=Fc hs;unfold E6 at hst;rw[<-hp]at hst;have fs:(partC (ps.getD (i) AD)).length=2:=(Aec (hr.keep hE) AD (by omega));refine gS (AaZ Gd Lq (by decide) AD (AaD (hr.keep hE) aq) ad (by omega) fun jd dh=>(gS (Aa4 (Aa6 dh rfl) (TC).choose_spec rfl (by rw[fs];exact Lp) (gS (Ad9 TD fun am ft di dj b5 je=> ?_)))));have o:=Ad4 df;have jf:=hE.size;have jg:=Av hb11l.lt di;have jh:=Av (bl hb38l) di;have ci:OB vb am:=A4 hr_vb (by omega);have dk:OB vi am:=A4 hr_vi.2 (by omega);have f:=dj;clear dj;have ji:am<ft.heap.size:=by omega
  refine gS (AaB (vr (PQ am 0) rfl) (vr (.agg (partC (ps.getD (i) AD)).toArray) rfl) f (by rfl) (by exact Lp) ((partC_one (Aeg (hps _ (getD_mem AD ct)).1))) fun dm dn b6 jj=> ?_);have hb11l:=hb11l.keep b5;have hb11l:=Ad8 hb11l b6 (Ak (by omega));clear f;have f:=dn;clear dn;have jk:=bl f;clear dh;have f:dm.heap[am]? =some (.cells ([p.v, .int .i64 (p.base:Int)]).toArray 156 (0,0)):=A5 f (show partC (ps.getD i AD)= [p.v, .int .i64 (p.base:Int)] by rw[<-hp];rfl);by_cases hA:p.base < -1
  ·have o:=o.trans b5;have o:=Ab o b6 (Ae7 (Ae8 _) (by omega));have hE:=hE.trans o;refine gS (Ad6 Cs rfl (gS (Aax GR rfl rfl (cellAt f rfl) (gS (AaT GR (AaF (hpr.keep hE) rfl) (gS (Aay (a:=((p.bytes:AlJ).length:Nat)) (b:=(262144:Nat)) rfl rfl (Bj _ _ _ _) ?_)))))));refine cD rfl (fun az=> ?_) fun az=> ?_
   ·exact absurd az (by omega)
   refine gS (Ad6 B0 rfl (gS (Aax Vx rfl rfl (cellAt f rfl) (gS (Aay rfl rfl (F4 _ .i64 (p.base:Int) (-1:Int)) (kT (by omega) (gS (AaS rfl rfl (cT rfl (BI rfl (vr (Afc none 0 0) rfl) (vr (NI 1) rfl) ?_))))))))));rw[if_pos (by omega)]at hst;rw[EK (by omega) hst];exact⟨_,rfl,Af5 _ _ _ 1,hE⟩
  by_cases hBq:(i:Int)<=p.base
  ·have o:=o.trans b5;have o:=Ab o b6 (Ae7 (Ae8 _) (by omega));have hE:=hE.trans o;refine gS (Ad6 Cs rfl (gS (Aax GR rfl rfl (cellAt f rfl) (gS (AaT GR (AaF (hpr.keep hE) rfl) (gS (Aay (a:=((p.bytes:AlJ).length:Nat)) (b:=(262144:Nat)) rfl rfl (Bj _ _ _ _) ?_)))))));refine cD rfl (fun az=> ?_) fun az=> ?_
   ·exact absurd az (by omega)
   refine gS (Ad6 B0 rfl (gS (Aax Vx rfl rfl (cellAt f rfl) (gS (Aay rfl rfl (F4 _ .i64 (p.base:Int) (-1:Int)) (kF (by omega) (gS (Ad6 B0 rfl (gS (Aax Vx rfl rfl (cellAt f rfl) (gS (Aay rfl ad (NR _ .i64 (p.base:Int) ((i:Nat):Int)) (kT (by omega) (gS (AaX rfl rfl (cT rfl (BI rfl (vr (Afc none 0 0) rfl) (vr (NI 1) rfl) ?_)))))))))))))))));rw[if_pos (by omega)]at hst;rw[EK (by omega) hst];exact⟨_,rfl,Af5 _ _ _ 1,hE⟩
  by_cases hC0:p.base<0
  ·have o:=o.trans b5;have o:=Ab o b6 (Ae7 (Ae8 _) (by omega));have hE:=hE.trans o;refine gS (Ad6 Cs rfl (gS (Aax GR rfl rfl (cellAt f rfl) (gS (AaT GR (AaF (hpr.keep hE) rfl) (gS (Aay (a:=((p.bytes:AlJ).length:Nat)) (b:=(262144:Nat)) rfl rfl (Bj _ _ _ _) ?_)))))));refine cD rfl (fun az=> ?_) fun az=> ?_
   ·exact absurd az (by omega)
   refine gS (Ad6 B0 rfl (gS (Aax Vx rfl rfl (cellAt f rfl) (gS (Aay rfl rfl (F4 _ .i64 (p.base:Int) (-1:Int)) (kF (by omega) (gS (Ad6 B0 rfl (gS (Aax Vx rfl rfl (cellAt f rfl) (gS (Aay rfl ad (NR _ .i64 (p.base:Int) ((i:Nat):Int)) (kF (by omega) (gS (AaX rfl rfl (cF rfl (gS (Ad6 Cs rfl (gS (Aax GR rfl rfl (cellAt f rfl) (gS (Abf GV (AaF (hpr.keep hE) (vr p.v rfl)) fun fu jl fv dq=> ?_))))))))))))))))))))));have hE:=hE.trans dq;refine gS (AaE KB rfl ((GJ _ (hG.keep hE) fu (p.bytes) fv (by omega)).mono ?_));rintro e jm ⟨rfl,dr⟩;refine⟨_,rfl,?_⟩;refine gS (Ad9 VA fun b7 fw cu ds bg jn=> ?_);have hE:=hE.trans dr;have hZ1:=dq.trans dr;have o:=o.trans hZ1;have cv:=hE.size;have hb11l:=hb11l.keep hZ1;have jo:=Av hb11l.lt cu;have jp:=o.size;have hb38l:=eb o hb38l;have jq:=Av (bl hb38l) cu;have f:=eb hZ1 f;have jr:=Av (bl f) cu;have hr_vb:=Aed _ _ _ _ _ _ _ _ hr_vb o;have dt:OB vb b7:=A4 hr_vb (by omega);have hr_vi:=hr_vi.keep o;have du:OB vi b7:=A4 hr_vi.2 (by omega);have an:=ds;clear ds;have js:b7<fw.heap.size:=by omega
   refine gS (AaB (vr (PQ b7 0) rfl) (vr (AB (Sha.sum (p.bytes))) rfl) an (by exact Bp (Sha.sum_length _) Afp) (by exact Ac (Sha.sum_length _)) (Ag _) fun fx dv bh jt=> ?_);have hb11l:=hb11l.keep bg;have hb11l:=Ad8 hb11l bh (Ak (by omega));clear an;have an:=dv;clear dv;have ju:=bl an;rw[if_neg (by omega)]at hst;by_cases hin:Sha.sum p.bytes∈s.ids
   ·rw[if_pos hin]at hst;obtain⟨q,hq,-⟩:=Ep s.ids s.places (Sha.sum p.bytes) (by omega) hin;refine gS (AaC rfl an XM rfl (by exact Ac (Sha.sum_length _)) (gS (Abs (ek:=rk) (ev:=NI) (D:=(fun id:AlJ =>id.length=32)) Cu Cv (fun _ _=>Cp) Ey (z:=NI 0) HU T5 rfl hb11l (Sha.sum_length _) (show Bz s _=some q from hq) (gS (Ad5 (vs:= [NI q, .bool (true)]) rfl rfl (gS (Ad5 (vs:= [NI q, .bool (true)]) rfl rfl (cT rfl (BI rfl (vr (Afc none 0 0) rfl) (vr (NI 11) rfl) ?_)))))))));rw[EK (by omega) hst];have hE:=hE.trans bg;have hE:=Ab hE bh (Ae7 cv (by omega));exact⟨_,rfl,Af5 _ _ _ 1,hE⟩
   rw[if_neg hin]at hst;have hq:=C8 s.ids s.places (Sha.sum p.bytes) hin;have f:=eb bg f;have f:=kb bh f (by omega);refine gS (AaC rfl an XM rfl (by exact Ac (Sha.sum_length _)) (gS (Abz (ek:=rk) (ev:=NI) (D:=(fun id:AlJ =>id.length=32)) Cu Cv (fun _ _=>Cp) Ey (z:=NI 0) HU T5 rfl hb11l (Sha.sum_length _) (show Bz s _=none from hq) (gS (Ad5 (vs:= [NI 0, .bool (false)]) rfl rfl (gS (Ad5 (vs:= [NI 0, .bool (false)]) rfl rfl (cF rfl (gS (Ad6 B0 rfl (gS (Aax Vx rfl rfl (cellAt f rfl) (gS (Aay rfl rfl (NR _ .i64 (p.base:Int) ((0:Nat):Int)) (kF (by omega) ?_)))))))))))))));obtain⟨d2,hd2⟩:∃d2,d2=s.depths++DC p s :: Afk (ps.length-i-1) 0:=⟨_,rfl⟩;have hb38l:=eb bg hb38l;have hb38l:=kb bh hb38l (by omega);have hb38l:fx.heap[ab]? =some (.cells (d2.map fun x=>NI x).toArray 3 (0,0)):=A5 hb38l (congrArg (AhV fun x=>NI x) (by rw[hd2,hdl,show ps.length-i=(ps.length-i-1)+1 by omega];unfold DC;rw[if_pos hC0];rfl));have hdv:d2.getD i 0=DC p s:=by rw[hd2,Ae6,AfR (by omega),hBd,AgR];simp
   have hd2l:d2.length=ps.length:=by rw[hd2,Ae9,AfA,Afp];omega
   refine cF rfl (gS (AbV (i:=i) ML HT T7 ad (by omega) (gS (Aax Vx rfl rfl (cellAt hb38l (GU (i:=i) (by omega))) (gS (Aay (a:=((d2).getD (i) 0:Nat)) (b:=(50:Nat)) rfl rfl (Bj _ _ _ _) ?_))))));refine cD rfl (fun a0=> ?_) fun a0=> ?_
   ·refine BI rfl (vr (Afc none 0 0) rfl) (vr (NI 17) rfl) ?_;rw[hdv]at a0;rw[if_pos a0]at hst;rw[EK (by omega) hst];have hE:=hE.trans bg;have hE:=Ab hE bh (Ae7 cv (by omega));exact⟨_,rfl,Af5 _ _ _ 1,hE⟩
   rw[hdv]at a0;rw[if_neg a0]at hst;have hst3:=hst;have hr_vb:=Aed _ _ _ _ _ _ _ _ hr_vb bg;have hr_vb:=BT hr_vb bh dt;refine gS (AaC rfl an XM rfl (by exact Ac (Sha.sum_length _)) (gS (AaT GR (AaF (Aa5 hr_vb) T4) (gS (Aby (ek:=rk) (ev:=NI) (D:=(fun id:AlJ =>id.length=32)) (c:=(s.b:AlJ).length) Cu Cv Ey T5 (vr (AB (Sha.sum (p.bytes))) rfl) (vr (NI ((s.b:AlJ).length)) rfl) hb11l (Sha.sum_length _) fun fy a4 bw jv=> ?_)))));clear hb11l;have jw:n8<fy.heap.size:=a4.lt;have an:=kb bw an (by omega);refine gS (AaC rfl an XM rfl (by exact Ac (Sha.sum_length _)) (gS (Abg (a:=(Sha.sum (p.bytes))) (enc:=Ae4) (vr (AB (Sha.sum (p.bytes))) rfl) (by rw[Afl];exact(Sha.sum_length _)) Ox fun fz f0 dw bo=> ?_)));have hE:=hE.trans bg;have hE:=Ab hE bh (Ae7 cv (by omega));have hE:=Ab hE bw (Ae7 da (by omega));have hE:=hE.trans bo;have hr_vi:=hr_vi.keep bg;have hr_vi:=Aei hr_vi bh du;have hr_vi:=Aei hr_vi bw hap_vi_n8;have hr_vi:=hr_vi.keep bo;refine gS (Aa2 _ _ w.heap.size _ 32 Oi pk6_ig33.choose_spec.1 pk6_ig33.choose_spec.2 Oi (s.ids) ([(Sha.sum (p.bytes))]) (Aen hr_vi T6) (AaD dw (vr fz rfl)) (fun _ _=>Ag _) (by simp only[AfA,AfK];omega) (by simp only[AfA,AfK];omega) hE.size fun a8 u cj a1=> ?_);have a1:Grew f0 u vi a8:= .eqv T6 a1;have a4:=a4.keep bo;have f1:OB a8 n8:=Ap a1 hap_vi_n8 a4.lt;have hr_vb:=BT hr_vb bw hap_vb_n8;have hr_vb:=Aed _ _ _ _ _ _ _ _ hr_vb bo;have f2:Ai a8 vb:=AM a1 hap_vi_vb hr_vb;have dx:Ai vb a8:=fun k h1 h2=>f2 k h2 h1;have hb38l:=kb bw hb38l (by omega);have hb38l:=eb bo hb38l;have f3:OB a8 ab:=Ap a1 hap_vi_n24 (bl hb38l);have f:=kb bw f (by omega);have f:=eb bo f;have an:=eb bo an;have hE:=As hE a1 hr_vi.2 (Ae8 _);have hr_vb:=DK hr_vb a1 hap_vi_vb;have hb38l:=Aq hb38l a1 hap_vi_n24;have f:=Aq f a1 dk;have an:=Aq an a1 du;have a4:=Aeh a4 a1 hap_vi_n8;clear dw;clear hr_vi;refine gS (Ad6 Cs rfl (gS (Aax GR rfl rfl (cellAt f rfl) (gS (AaT GR (AaF (hpr.keep hE) rfl) (gS (Aaz (xv:=NI s.total) (yv:=NI ((p.bytes:AlJ).length)) T8 rfl rfl (Ah _ _ _ (by omega)) (gS (Ad6 B0 rfl (gS (Aax Vx rfl rfl (cellAt f rfl) (gS (Aay rfl rfl (F4 _ .i64 (p.base:Int) ((0:Nat):Int)) (kT (by omega) (cT rfl (gR ?_))))))))))))))));have f4:∀k,Afd vb=some k->w.heap.size<=k:=fun k hk=>(hr_vb.lt k hk).1;have hsz_:w.heap.size<=u.heap.size:=hE.size;refine EI (Afd vb) [2] [0] (fun m=>if m=2 then [0,1]else []) (fun m=>if m=2 then [0,1,2,6,7]else []) [fun x w' =>Fx w.heap.size u.heap.size 5 (Afd vb) (s.b) x w',fun x w' =>RB w' x (([0]:AlJ)),fun x w' =>Fx w.heap.size u.heap.size 5 (Afd vb) ((s.b:AlJ)++(([0]:AlJ):AlJ)) x w',Is (PQ am 0),Is (p.v),Is (St (p.bytes)),fun x w' =>Fx w.heap.size u.heap.size 5 (Afd vb) (((s.b:AlJ)++(([0]:AlJ):AlJ):AlJ)++Bw (p.bytes:AlJ)) x w',fun x w' =>Fx w.heap.size u.heap.size 5 (Afd vb) (((s.b:AlJ)++(([0]:AlJ):AlJ):AlJ)++Bw (p.bytes:AlJ)) x w'] (by kernel_rfl) [92,93,94,95,96,97,98,4] (by kernel_rfl) (by kernel_rfl) (by kernel_rfl) (by kernel_rfl) (by kernel_rfl) rfl ⟨(fun _ _ _ h k=>⟨Aed _ _ _ _ _ _ _ _ h.1 k,h.2⟩),(fun _ _ _ h k=>AeM h k),(fun _ _ _ h k=>⟨Aed _ _ _ _ _ _ _ _ h.1 k,h.2⟩),AaG _,AaG _,AaG _,(fun _ _ _ h k=>⟨Aed _ _ _ _ _ _ _ _ h.1 k,h.2⟩),(fun _ _ _ h k=>⟨Aed _ _ _ _ _ _ _ _ h.1 k,h.2⟩),trivial⟩ ⟨⟨.inl rfl, .inl rfl, .inl rfl, .inr (AaG _), .inr (AaG _), .inr (AaG _), .inl rfl, .inl rfl,trivial⟩,trivial⟩ ?f5 ?hQ4025
   case f5=>
    refine⟨?_,?_,?_,?_,?_,?_,?_,?_,trivial⟩
    ·refine Af rfl fun σ w1 hC h=> ?_;have hX:Ext u w1:=hC;have hC:BX u.heap.size (Afd vb) u w1:=Abm hX (Ae8 _);have e4:=(An (h 4 (by decide))).trans T4;exact Aeb e4 ⟨Ad4 _,Aed _ _ _ _ _ _ _ _ hr_vb hX,fun k hk=> .inl hk⟩
    ·refine Af rfl fun σ w1 hC h=> ?_;have hC:BX u.heap.size (Afd vb) u w1:=hC;exact AcW (e:=5) ([0]:AlJ) (by decide) (fun _ _=>by kernel_rfl) fun v w2 hN=>⟨hN.ext,hN.rb⟩
    ·refine Af rfl fun σ w1 hC h=> ?_;have hC:BX u.heap.size (Afd vb) u w1:=hC;have cx:(fun x w' =>Fx w.heap.size u.heap.size 5 (Afd vb) (s.b) x w') (σ 92) w1:=h 92 (by decide);have f6:(fun x w' =>RB w' x (([0]:AlJ))) (σ 93) w1:=h 93 (by decide);exact Abc _ _ w.heap.size (.int .u8 0) GR NU rfl GR (s.b) (([0]:AlJ)) cx.1 f6 (by simp only[AfA,AfK];omega) (Ae7 hsz_ hC.size) fun v w2 ho hg=>⟨Abn hg.by_ hC.size cx.2,ho,fun k hk=>(hg.fresh k hk).elim (cx.2 k) (fun x=> .inr (Ae7 hC.size x))⟩
    ·refine Af rfl fun σ w1 hC h=> ?_;have hC:BX u.heap.size (Afd vb) u w1:=hC;have b8:σ 10=PQ am 0:=(An (h 10 (by decide))).trans rfl;exact Ad6 Cs b8 ⟨Ad4 _,rfl⟩
    ·refine Af rfl fun σ w1 hC h=> ?_;have hC:BX u.heap.size (Afd vb) u w1:=hC;have f7:=An (h 95 (by decide));exact Aax GR rfl f7 (cellAt (BX.blk hC f ci) (show _=some (p.v:Ae2)from rfl)) ⟨Ad4 _,rfl⟩
    ·refine Af rfl fun σ w1 hC h=> ?_;have hC:BX u.heap.size (Afd vb) u w1:=hC;have f8:=An (h 96 (by decide));exact Abb GR u5 QD (AaF (hpr.keep (DW hE hC (by omega) (fun k hk=>by have:=f4 k hk;omega))) f8) ⟨Ad4 _,rfl⟩
    ·refine Af rfl fun σ w1 hC h=> ?_;have hC:BX u.heap.size (Afd vb) u w1:=hC;have f9:(fun x w' =>Fx w.heap.size u.heap.size 5 (Afd vb) ((s.b:AlJ)++(([0]:AlJ):AlJ)) x w') (σ 94) w1:=h 94 (by decide);have ga:=An (h 97 (by decide));refine AaA MT rfl ga ((Ow _ (σ 94) ((s.b:AlJ)++(([0]:AlJ):AlJ)) (Aa5 f9.1) (p.bytes) (by simp only[Ae9,AfA,AfK];omega)).mono ?_);rintro e w2 ⟨v,rfl,hN⟩;exact⟨_,rfl,hN.ext,BM hN.own (Ae7 hsz_ hC.size),fun k hk=> .inr (Ae7 hC.size (hN.own.lt k hk).1)⟩
    ·refine Af rfl fun σ w1 hC h=> ?_;have hC:BX u.heap.size (Afd vb) u w1:=hC;have gb:(fun x w' =>Fx w.heap.size u.heap.size 5 (Afd vb) (((s.b:AlJ)++(([0]:AlJ):AlJ):AlJ)++Bw (p.bytes:AlJ)) x w') (σ 98) w1:=h 98 (by decide);exact Aek rfl ⟨Ad4 _,gb⟩
   intro dy dz gc he hf;obtain⟨-,-,-,-,-,-,-,k4,-⟩:=hf;obtain⟨T0,T5,T6,T7,T8,T9,ge,gf,gg,aq,ar,ad,gh,gi,gj,gk,-⟩:=he.hold [(0,_),(5,_),(6,a8),(7,_),(8,NI ((s.total)+((p.bytes:AlJ).length))),(9,_),(10,PQ am 0),(11,PQ b7 0),(13, .bool (false)),(28,_),(29,_),(30,_),(47, .bool (false)),(58, .bool (false)),(61, .bool (false)),(91, .bool (true))] ⟨T0,T5,rfl,T7,rfl,ad,rfl,rfl,rfl,aq,ar,ad,rfl,rfl,rfl,rfl,trivial⟩ rfl;clear he;have k4:(fun x w' =>Fx w.heap.size u.heap.size 5 (Afd vb) (((s.b:AlJ)++(([0]:AlJ):AlJ):AlJ)++Bw (p.bytes:AlJ)) x w') (dy 4) dz:=k4;obtain⟨bx,T4⟩:∃v,dy 4=v:=⟨_,rfl⟩;rw[T4]at k4;have a9:Grew u dz vb bx:=⟨gc.grown,k4.2⟩;have gl:=k4.1;clear k4;have gm:OB bx n8:=Ap a9 hap_vb_n8 a4.lt;have gn:OB bx ab:=Ap a9 hap_vb_n24 (bl hb38l);have d0:Ai bx a8:=AM a9 dx cj.2;have go:Ai a8 bx:=fun k h1 h2=>d0 k h2 h1;have hE:=As hE a9 hr_vb (Ae8 _);have hb38l:=Aq hb38l a9 hap_vb_n24;have f:=Aq f a9 ci;have an:=Aq an a9 dt;have a4:=Aeh a4 a9 hap_vb_n8;have cj:=Bi cj a9 dx;clear hr_vb;refine gX ?_;have hbn:(bnext ps p s).b=s.b++ [0]++Bw p.bytes:=by unfold bnext;simp only;rw[if_pos hC0]
   refine gS (Aaz (xv:=NI i) (yv:=NI 1) ad rfl rfl (Ah _ _ _ (by omega)) ?_);have hdep:d2=(bnext ps p s).depths++Afk (ps.length-(i+1)) 0:=by rw[hd2];simp only[bnext,AfH,Aiw,Nat.sub_sub]
   refine gK (AfF ⟨i+1,bnext ps p s,bx,a8,T0,T5,T7,aq,ar,rfl,T8,T4,T6,hE,DB gl (by rw[hbn]),Bd cj (rfl),Ci a4 ((Jj hB hin).symm),A5 hb38l (congrArg (AhV fun x=>NI x) hdep),hst3,by omega,gm,d0,gn,f1,go,f3,trivial⟩ ?_);show ps.length-(intOf (NI ((i)+(1)))).toNat<ps.length-(intOf (de 30)).toNat;rw[q30];simp only[intOf,Afg];omega
  have o:=o.trans b5;have o:=Ab o b6 (Ae7 (Ae8 _) (by omega));have hE:=hE.trans o;obtain⟨m,hm⟩:∃m:Nat,p.base=(m:Int):=⟨p.base.toNat,by omega⟩;have hmi:m<i:=by omega
  have f:dm.heap[am]? =some (.cells ([p.v,NI m]).toArray 156 (0,0)):=A5 f (by rw[hm]);refine gS (Ad6 Cs rfl (gS (Aax GR rfl rfl (cellAt f rfl) (gS (AaT GR (AaF (hpr.keep hE) rfl) (gS (Aay (a:=((p.bytes:AlJ).length:Nat)) (b:=(262144:Nat)) rfl rfl (Bj _ _ _ _) ?_)))))));refine cD rfl (fun az=> ?_) fun az=> ?_
  ·exact absurd az (by omega)
  refine gS (Ad6 B0 rfl (gS (Aax Vx rfl rfl (cellAt f rfl) (gS (Aay rfl rfl (F4 _ .i64 ((m:Nat):Int) (-1:Int)) (kF (by omega) (gS (Ad6 B0 rfl (gS (Aax Vx rfl rfl (cellAt f rfl) (gS (Aay (a:=(m:Nat)) (b:=(i:Nat)) rfl ad (E1 _ _ _ _) (kF (by omega) (gS (AaX rfl rfl (cF rfl (gS (Ad6 Cs rfl (gS (Aax GR rfl rfl (cellAt f rfl) (gS (Abf GV (AaF (hpr.keep hE) (vr p.v rfl)) fun gp jx gq d1=> ?_))))))))))))))))))))));have hE:=hE.trans d1;refine gS (AaE KB rfl ((GJ _ (hG.keep hE) gp (p.bytes) gq (by omega)).mono ?_));rintro e jy ⟨rfl,d3⟩;refine⟨_,rfl,?_⟩;refine gS (Ad9 VA fun bp gr cy d4 bi jz=> ?_);have hE:=hE.trans d3;have hZ2:=d1.trans d3;have o:=o.trans hZ2;have cz:=hE.size;have hb11l:=hb11l.keep hZ2;have j0:=Av hb11l.lt cy;have j1:=o.size;have hb38l:=eb o hb38l;have j2:=Av (bl hb38l) cy;have f:=eb hZ2 f;have j3:=Av (bl f) cy;have hr_vb:=Aed _ _ _ _ _ _ _ _ hr_vb o;have c0:OB vb bp:=A4 hr_vb (by omega);have hr_vi:=hr_vi.keep o;have d5:OB vi bp:=A4 hr_vi.2 (by omega);have t:=d4;clear d4;have j4:bp<gr.heap.size:=by omega
  refine gS (AaB (vr (PQ bp 0) rfl) (vr (AB (Sha.sum (p.bytes))) rfl) t (by exact Bp (Sha.sum_length _) Afp) (by exact Ac (Sha.sum_length _)) (Ag _) fun j5 d6 bj j6=> ?_);have hb11l:=hb11l.keep bi;have hb11l:=Ad8 hb11l bj (Ak (by omega));clear t;have t:=d6;clear d6;have j7:=bl t;rw[if_neg (by omega)]at hst;by_cases hin:Sha.sum p.bytes∈s.ids
  ·rw[if_pos hin]at hst;obtain⟨q,hq,-⟩:=Ep s.ids s.places (Sha.sum p.bytes) (by omega) hin;refine gS (AaC rfl t XM rfl (by exact Ac (Sha.sum_length _)) (gS (Abs (ek:=rk) (ev:=NI) (D:=(fun id:AlJ =>id.length=32)) Cu Cv (fun _ _=>Cp) Ey (z:=NI 0) HU T5 rfl hb11l (Sha.sum_length _) (show Bz s _=some q from hq) (gS (Ad5 (vs:= [NI q, .bool (true)]) rfl rfl (gS (Ad5 (vs:= [NI q, .bool (true)]) rfl rfl (cT rfl (BI rfl (vr (Afc none 0 0) rfl) (vr (NI 11) rfl) ?_)))))))));rw[EK (by omega) hst];have hE:=hE.trans bi;have hE:=Ab hE bj (Ae7 cz (by omega));exact⟨_,rfl,Af5 _ _ _ 1,hE⟩
  rw[if_neg hin]at hst;have hq:=C8 s.ids s.places (Sha.sum p.bytes) hin;have hb38l:=eb bi hb38l;have hb38l:=kb bj hb38l (by omega);have f:=eb bi f;have f:=kb bj f (by omega);refine gS (AaC rfl t XM rfl (by exact Ac (Sha.sum_length _)) (gS (Abz (ek:=rk) (ev:=NI) (D:=(fun id:AlJ =>id.length=32)) Cu Cv (fun _ _=>Cp) Ey (z:=NI 0) HU T5 rfl hb11l (Sha.sum_length _) (show Bz s _=none from hq) (gS (Ad5 (vs:= [NI 0, .bool (false)]) rfl rfl (gS (Ad5 (vs:= [NI 0, .bool (false)]) rfl rfl (cF rfl (gS (Ad6 B0 rfl (gS (Aax Vx rfl rfl (cellAt f rfl) (gS (Aay (a:=(m:Nat)) (b:=(0:Nat)) rfl rfl (E1 _ _ _ _) (kT (AfC _) (cT rfl (gS (Ad6 B0 rfl (gS (Aax Vx rfl rfl (cellAt f rfl) (gS (AbV (i:=m) ML HT T7 rfl (by omega) (gS (Aax Vx rfl rfl (cellAt hb38l (GU (i:=m) (by omega))) (gS (Aaz (xv:=NI ((dl).getD (m) 0)) (yv:=NI 1) rfl rfl rfl (Ah _ _ _ (by have:=hB.dp _ (getD_mem 0 (l:=s.depths) (i:=m) (by omega));rw[hdg m hmi];omega)) (gS (AbV (i:=i) ML HT T7 ad (by omega) (gS (Acb (i:=i) (v:=((dl).getD (m) 0)+(1)) rfl rfl hb38l (by omega) Oj fun gs d7 bq j8=> ?_))))))))))))))))))))))))))))));have hb11l:=Ad8 hb11l bq (Ak (by omega));clear hb38l;have hb38l:=d7;clear d7;have j9:=bl hb38l;obtain⟨d2,hd2⟩:∃d2,d2=s.depths++DC p s :: Afk (ps.length-i-1) 0:=⟨_,rfl⟩;have hb38l:gs.heap[ab]? =some (.cells (d2.map fun x=>NI x).toArray 3 (0,0)):=A5 hb38l (congrArg (AhV fun x=>NI x) (by rw[hd2,hdg m hmi,hdl,List.set_append_right _ _ (by omega),hBd,AgR,show ps.length-i=(ps.length-i-1)+1 by omega];unfold DC;rw[if_neg hC0,hm,Afg];rfl));have hdv:d2.getD i 0=DC p s:=by rw[hd2,Ae6,AfR (by omega),hBd,AgR];simp
  have hd2l:d2.length=ps.length:=by rw[hd2,Ae9,AfA,Afp];omega
  refine gS (AbV (i:=i) ML HT T7 ad (by omega) (gS (Aax Vx rfl rfl (cellAt hb38l (GU (i:=i) (by omega))) (gS (Aay (a:=((d2).getD (i) 0:Nat)) (b:=(50:Nat)) rfl rfl (Bj _ _ _ _) ?_)))));refine cD rfl (fun a0=> ?_) fun a0=> ?_
  ·refine BI rfl (vr (Afc none 0 0) rfl) (vr (NI 17) rfl) ?_;rw[hdv]at a0;rw[if_pos a0]at hst;rw[EK (by omega) hst];have hE:=hE.trans bi;have hE:=Ab hE bj (Ae7 cz (by omega));have hE:=Ab hE bq (Ae7 dc (by omega));exact⟨_,rfl,Af5 _ _ _ 1,hE⟩
  rw[hdv]at a0;rw[if_neg a0]at hst;have hst3:=hst;have hr_vb:=Aed _ _ _ _ _ _ _ _ hr_vb bi;have hr_vb:=BT hr_vb bj c0;have hr_vb:=BT hr_vb bq hap_vb_n24;have t:=kb bq t (by omega);refine gS (AaC rfl t XM rfl (by exact Ac (Sha.sum_length _)) (gS (AaT GR (AaF (Aa5 hr_vb) T4) (gS (Aby (ek:=rk) (ev:=NI) (D:=(fun id:AlJ =>id.length=32)) (c:=(s.b:AlJ).length) Cu Cv Ey T5 (vr (AB (Sha.sum (p.bytes))) rfl) (vr (NI ((s.b:AlJ).length)) rfl) hb11l (Sha.sum_length _) fun gt ac bz ka=> ?_)))));clear hb11l;have kc:n8<gt.heap.size:=ac.lt;have t:=kb bz t (by omega);refine gS (AaC rfl t XM rfl (by exact Ac (Sha.sum_length _)) (gS (Abg (a:=(Sha.sum (p.bytes))) (enc:=Ae4) (vr (AB (Sha.sum (p.bytes))) rfl) (by rw[Afl];exact(Sha.sum_length _)) Ox fun gu gv d8 br=> ?_)));have hE:=hE.trans bi;have hE:=Ab hE bj (Ae7 cz (by omega));have hE:=Ab hE bq (Ae7 dc (by omega));have hE:=Ab hE bz (Ae7 da (by omega));have hE:=hE.trans br;have hr_vi:=hr_vi.keep bi;have hr_vi:=Aei hr_vi bj d5;have hr_vi:=Aei hr_vi bq hap_vi_n24;have hr_vi:=Aei hr_vi bz hap_vi_n8;have hr_vi:=hr_vi.keep br;refine gS (Aa2 _ _ w.heap.size _ 32 Oi pk6_ig33.choose_spec.1 pk6_ig33.choose_spec.2 Oi (s.ids) ([(Sha.sum (p.bytes))]) (Aen hr_vi T6) (AaD d8 (vr gu rfl)) (fun _ _=>Ag _) (by simp only[AfA,AfK];omega) (by simp only[AfA,AfK];omega) hE.size fun ax d9 ae a2=> ?_);have a2:Grew gv d9 vi ax:= .eqv T6 a2;have ac:=ac.keep br;have gw:OB ax n8:=Ap a2 hap_vi_n8 ac.lt;have hr_vb:=BT hr_vb bz hap_vb_n8;have hr_vb:=Aed _ _ _ _ _ _ _ _ hr_vb br;have gx:Ai ax vb:=AM a2 hap_vi_vb hr_vb;have ea:Ai vb ax:=fun k h1 h2=>gx k h2 h1;have hb38l:=kb bz hb38l (by omega);have hb38l:=eb br hb38l;have gy:OB ax ab:=Ap a2 hap_vi_n24 (bl hb38l);have f:=kb bq f (by omega);have f:=kb bz f (by omega);have f:=eb br f;have t:=eb br t;have hE:=As hE a2 hr_vi.2 (Ae8 _);have hr_vb:=DK hr_vb a2 hap_vi_vb;have f:=Aq f a2 dk;have t:=Aq t a2 d5;have hb38l:=Aq hb38l a2 hap_vi_n24;have ac:=Aeh ac a2 hap_vi_n8;clear d8;clear hr_vi;refine gS (Ad6 Cs rfl (gS (Aax GR rfl rfl (cellAt f rfl) (gS (AaT GR (AaF (hpr.keep hE) rfl) (gS (Aaz (xv:=NI s.total) (yv:=NI ((p.bytes:AlJ).length)) T8 rfl rfl (Ah _ _ _ (by omega)) (gS (Ad6 B0 rfl (gS (Aax Vx rfl rfl (cellAt f rfl) (gS (Aay (a:=(m:Nat)) (b:=(0:Nat)) rfl rfl (AE _ _ _ _) (kF (by omega) ?_))))))))))))));have hm32:(s.ids.getD m []).length=32:=hB.len _ (getD_mem [] (by omega));have hpq:=(hps _ (getD_mem AD (l:=ps) (i:=m) (by omega))).1;have hql:=hL.2 _ (getD_mem AD (l:=ps) (i:=m) (by omega));have hmk:=Je (ps.getD m AD).bytes p.bytes (by omega) (by omega);refine cF rfl (gS (Ad6 B0 rfl (gS (Aax Vx rfl rfl (cellAt f rfl) ?_))));have c1:(Ae4 (((s.ids)++ [(Sha.sum (p.bytes))]).getD (m) ([]:AlJ))).length=32:=(Aec (AaR ae) ([]:AlJ) (by rw[Ae9];omega));refine gS (AaZ Oi Td (by decide) ([]:AlJ) (AaD (AaR ae) rfl) rfl (by rw[Ae9];omega) fun kd ec=>(gS (Aa4 (Aa6 ec rfl) XM rfl (by rw[c1];exact SY) (gS (Ad9 VA fun ba gz ck ed c2 ke=> ?_)))));have ay:=Ad4 d9;have kf:=hE.size;have kg:=Av (bl f) ck;have kh:=Av (bl t) ck;have ki:=Av (bl hb38l) ck;have kj:=Av ac.lt ck;have ee:OB vb ba:=A4 hr_vb (by omega);have g0:OB ax ba:=A4 ae.2 (by omega);have ah:=ed;clear ed;have kk:ba<gz.heap.size:=by omega
  refine gS (AaB (vr (PQ ba 0) rfl) (vr (AB (((s.ids)++ [(Sha.sum (p.bytes))]).getD (m) ([]:AlJ))) rfl) ah (by exact Bp (Ay (c1)) Afp) (by exact Ac (Ay (c1))) (Ag _) fun g1 ef c3 kl=> ?_);have ac:=ac.keep c2;have ac:=Ad8 ac c3 (Ak (by omega));clear ah;have ah:=ef;clear ef;have km:=bl ah;clear ec;have ah:g1.heap[ba]? =some (.cells (Ae4 (s.ids.getD m [])).toArray 33 (0,0)):=A5 ah (congrArg Ae4 (by rw[Ae6,AfW (by omega),<-Ae6]));refine Co [0,3,1,2,4,5] [1,2,4,5] [3] fun kn cl=>(yp (Abt XM Rg rfl zz) (yC (AbR (b:=1) S7 (vr (B8 (1)) rfl) fun cm g2 a5=> ?_)));have ay:=ay.trans c2;have ay:=Ab ay c3 (Ae7 (Ae8 _) (by omega));have ay:=ay.trans cl;have hE:=hE.trans ay;have ko:=hE.size;have kp:=ay.size;have f:=eb ay f;have t:=eb ay t;have hb38l:=eb ay hb38l;have ac:=ac.keep cl;have ah:=eb cl ah;have hr_vb:=Aed _ _ _ _ _ _ _ _ hr_vb ay;have eg:Ai vb cm:=D7 hr_vb a5.own;have ae:=ae.keep c2;have ae:=Aei ae c3 g0;have ae:=ae.keep cl;have bb:=a5.own;have hE:=hE.trans a5.ext;have hr_vb:=Aed _ _ _ _ _ _ _ _ hr_vb a5.ext;refine yC (Abc _ _ w.heap.size (.int .u8 0) GR NU rfl GR (s.b) ([(1:UInt8)]) (Dd hr_vb T4) (AaF (Aa5 bb) (vr cm rfl)) (by simp only[AfA,AfK];omega) hE.size fun a6 eh c4 ai=> ?_);have ai:Grew g2 eh vb a6:= .eqv T4 ai;have ac:=ac.keep a5.ext;have ei:OB a6 n8:=Ap ai hap_vb_n8 ac.lt;have hb38l:=eb a5.ext hb38l;have ej:OB a6 ab:=Ap ai hap_vb_n24 (bl hb38l);have f:=eb a5.ext f;have el:OB a6 am:=Ap ai ci (bl f);have t:=eb a5.ext t;have em:OB a6 bp:=Ap ai c0 (bl t);have ae:=ae.keep a5.ext;have en:Ai a6 ax:=AM ai ea ae.2;have ah:=eb a5.ext ah;have eo:OB a6 ba:=Ap ai ee (bl ah);have ep:Ai a6 cm:=AM ai eg bb;have hE:=As hE ai hr_vb (Ae8 _);have f:=Aq f ai ci;have t:=Aq t ai c0;have hb38l:=Aq hb38l ai hap_vb_n24;have ac:=Aeh ac ai hap_vb_n8;have ae:=Bi ae ai ea;have ah:=Aq ah ai ee;have bb:=DK bb ai eg;clear hr_vb;refine yC (Abc _ _ w.heap.size (.int .u8 0) GR NU rfl GR (s.b++ [(1:UInt8)]) (s.ids.getD m []) (Dd c4 (vr a6 rfl)) (AaF (AbH ah hm32 (by decide)) (vr (.slice (some ⟨ba,0,none⟩) 32 32) rfl)) (by simp only[Ae9,AfA,AfK,hm32];omega) hE.size fun r g cn aj=> ?_);have aj:Grew eh g a6 r:=aj;have eq:OB r n8:=Ap aj ei ac.lt;have er:OB r ab:=Ap aj ej (bl hb38l);have c5:OB r am:=Ap aj el (bl f);have g3:OB r bp:=Ap aj em (bl t);have es:Ai r ax:=AM aj en ae.2;have g4:OB r ba:=Ap aj eo (bl ah);have g5:Ai r cm:=AM aj ep bb;have hE:=As hE aj c4 (Ae8 _);have f:=Aq f aj el;have t:=Aq t aj em;have hb38l:=Aq hb38l aj ej;have ac:=Aeh ac aj ei;have ae:=Bi ae aj en;have ah:=Aq ah aj eo;have bb:=DK bb aj ep;clear c4;refine yC (Aek rfl (gR ?_));have c6:∀k,Afd r=some k->w.heap.size<=k:=fun k hk=>(cn.lt k hk).1;have hsz_:w.heap.size<=g.heap.size:=hE.size;refine EI (Afd r) [] [0] (fun m=> []) (fun m=> []) [fun x w' =>Fx w.heap.size g.heap.size 5 (Afd r) (s.b++ [(1:UInt8)]++s.ids.getD m []) x w',Is (v),Is (PQ am 1),Is (NI m),fun x w' =>PR (partC (ps.getD (m) AD)) x w',fun x w' =>PR (((partC (ps.getD (m) AD)).drop 0).take 1) x w',Is ((ps.getD (m) AD).v),Is (PQ am 0),Is (p.v),fun x w' =>RB w' x (Cc ((ps.getD m AD).bytes) (p.bytes)),Is (St (Cc ((ps.getD m AD).bytes) (p.bytes))),fun x w' =>Fx w.heap.size g.heap.size 5 (Afd r) ((s.b++ [(1:UInt8)]++s.ids.getD m []:AlJ)++Bw (Cc ((ps.getD m AD).bytes) (p.bytes):AlJ)) x w',fun x w' =>Fx w.heap.size g.heap.size 5 (Afd r) ((s.b++ [(1:UInt8)]++s.ids.getD m []:AlJ)++Bw (Cc ((ps.getD m AD).bytes) (p.bytes):AlJ)) x w'] (by kernel_rfl) [109,110,111,112,113,114,115,116,117,118,119,120,4] (by kernel_rfl) (by kernel_rfl) (by kernel_rfl) (by kernel_rfl) (by kernel_rfl) rfl ⟨(fun _ _ _ h k=>⟨Aed _ _ _ _ _ _ _ _ h.1 k,h.2⟩),AaG _,AaG _,AaG _,(fun _ _ _ h k=>Aej h k),(fun _ _ _ h k=>Aej h k),AaG _,AaG _,AaG _,(fun _ _ _ h k=>AeM h k),AaG _,(fun _ _ _ h k=>⟨Aed _ _ _ _ _ _ _ _ h.1 k,h.2⟩),(fun _ _ _ h k=>⟨Aed _ _ _ _ _ _ _ _ h.1 k,h.2⟩),trivial⟩ trivial ?g6 ?hQ5028
  case g6=>
   refine⟨?_,?_,?_,?_,?_,?_,?_,?_,?_,?_,?_,?_,?_,trivial⟩
   ·refine Af rfl fun σ w1 hC h=> ?_;have hX:Ext g w1:=hC;have hC:BX g.heap.size (Afd r) g w1:=Abm hX (Ae8 _);have e4:σ 4=r:=(An (h 4 (by decide))).trans rfl;exact Aeb e4 ⟨Ad4 _,Aed _ _ _ _ _ _ _ _ cn hX,fun k hk=> .inl hk⟩
   ·refine Af rfl fun σ w1 hC h=> ?_;have hC:BX g.heap.size (Afd r) g w1:=hC;have e0:=(An (h 0 (by decide))).trans T0;exact Aeb e0 ⟨Ad4 _,rfl⟩
   ·refine Af rfl fun σ w1 hC h=> ?_;have hC:BX g.heap.size (Afd r) g w1:=hC;have b8:σ 10=PQ am 0:=(An (h 10 (by decide))).trans rfl;exact Ad6 B0 b8 ⟨Ad4 _,rfl⟩
   ·refine Af rfl fun σ w1 hC h=> ?_;have hC:BX g.heap.size (Afd r) g w1:=hC;have g8:=An (h 111 (by decide));exact Aax Vx rfl g8 (cellAt (BX.blk hC f c5) (show _=some (NI m:Ae2)from rfl)) ⟨Ad4 _,rfl⟩
   ·refine Af rfl fun σ w1 hC h=> ?_;have hC:BX g.heap.size (Afd r) g w1:=hC;have g9:=An (h 110 (by decide));have ha:=An (h 112 (by decide));exact AaZ Gd Lq (by decide) AD (AaD (hr.keep (DW hE hC (by omega) (fun k hk=>by have:=c6 k hk;omega))) g9) ha (by omega) fun v h=>⟨Ad4 _,h⟩
   ·refine Af rfl fun σ w1 hC h=> ?_;have hC:BX g.heap.size (Afd r) g w1:=hC;have hb:(fun x w' =>PR (partC (ps.getD (m) AD)) x w') (σ 113) w1:=h 113 (by decide);exact Ac6 (n:=1) Cs hb fun v h=>⟨Ad4 _,h⟩
   ·refine Af rfl fun σ w1 hC h=> ?_;have hC:BX g.heap.size (Afd r) g w1:=hC;have hc:(fun x w' =>PR (((partC (ps.getD (m) AD)).drop 0).take 1) x w') (σ 114) w1:=h 114 (by decide);exact AaY GR rfl (Aef hc (show _=some ((ps.getD (m) AD).v:Ae2)from rfl)) ⟨Ad4 _,rfl⟩
   ·refine Af rfl fun σ w1 hC h=> ?_;have hC:BX g.heap.size (Afd r) g w1:=hC;have b8:σ 10=PQ am 0:=(An (h 10 (by decide))).trans rfl;exact Ad6 Cs b8 ⟨Ad4 _,rfl⟩
   ·refine Af rfl fun σ w1 hC h=> ?_;have hC:BX g.heap.size (Afd r) g w1:=hC;have hd:=An (h 116 (by decide));exact Aax GR rfl hd (cellAt (BX.blk hC f c5) (show _=some (p.v:Ae2)from rfl)) ⟨Ad4 _,rfl⟩
   ·refine Af rfl fun σ w1 hC h=> ?_;have hC:BX g.heap.size (Afd r) g w1:=hC;have hh:=An (h 115 (by decide));have hj:=An (h 117 (by decide));refine AaA TE hh hj ((VE _ ((ps.getD (m) AD).v) (p.v) ((ps.getD m AD).bytes) (p.bytes) (hpq.keep (DW hE hC (by omega) (fun k hk=>by have:=c6 k hk;omega))) (hpr.keep (DW hE hC (by omega) (fun k hk=>by have:=c6 k hk;omega))) (by omega) (by omega)).mono ?_);rintro e w2 ⟨_,rfl,hx,ho⟩;exact⟨_,rfl,hx,Aa5 ho⟩
   ·refine Af rfl fun σ w1 hC h=> ?_;have hC:BX g.heap.size (Afd r) g w1:=hC;have hl:(fun x w' =>RB w' x (Cc ((ps.getD m AD).bytes) (p.bytes))) (σ 118) w1:=h 118 (by decide);exact Abb GR u5 QD hl ⟨Ad4 _,rfl⟩
   ·refine Af rfl fun σ w1 hC h=> ?_;have hC:BX g.heap.size (Afd r) g w1:=hC;have hn:(fun x w' =>Fx w.heap.size g.heap.size 5 (Afd r) (s.b++ [(1:UInt8)]++s.ids.getD m []) x w') (σ 109) w1:=h 109 (by decide);have ht:=An (h 119 (by decide));refine AaA MT rfl ht ((Ow _ (σ 109) (s.b++ [(1:UInt8)]++s.ids.getD m []) (Aa5 hn.1) (Cc ((ps.getD m AD).bytes) (p.bytes)) (by simp only[Ae9,AfA,AfK,hm32];omega)).mono ?_);rintro e w2 ⟨v,rfl,hN⟩;exact⟨_,rfl,hN.ext,BM hN.own (Ae7 hsz_ hC.size),fun k hk=> .inr (Ae7 hC.size (hN.own.lt k hk).1)⟩
   ·refine Af rfl fun σ w1 hC h=> ?_;have hC:BX g.heap.size (Afd r) g w1:=hC;have hu:(fun x w' =>Fx w.heap.size g.heap.size 5 (Afd r) ((s.b++ [(1:UInt8)]++s.ids.getD m []:AlJ)++Bw (Cc ((ps.getD m AD).bytes) (p.bytes):AlJ)) x w') (σ 120) w1:=h 120 (by decide);exact Aek rfl ⟨Ad4 _,hu⟩
  intro et eu hv he hf;obtain⟨-,-,-,-,-,-,-,-,-,-,-,-,k4,-⟩:=hf;obtain⟨T0,T5,T6,T7,T8,T9,ge,gf,gg,kq,aq,ar,ad,gh,gi,gj,gk,-⟩:=he.hold [(0,_),(5,_),(6,ax),(7,_),(8,NI ((s.total)+((p.bytes:AlJ).length))),(9,_),(10,PQ am 0),(11,PQ bp 0),(13, .bool (false)),(14,PQ ba 0),(28,_),(29,_),(30,_),(47, .bool (false)),(58, .bool (false)),(61, .bool (true)),(91, .bool (false))] ⟨T0,T5,rfl,T7,rfl,ad,rfl,rfl,rfl,rfl,aq,ar,ad,rfl,rfl,rfl,rfl,trivial⟩ rfl;clear he;have k4:(fun x w' =>Fx w.heap.size g.heap.size 5 (Afd r) ((s.b++ [(1:UInt8)]++s.ids.getD m []:AlJ)++Bw (Cc ((ps.getD m AD).bytes) (p.bytes):AlJ)) x w') (et 4) eu:=k4;obtain⟨b0,T4⟩:∃v,et 4=v:=⟨_,rfl⟩;rw[T4]at k4;have a3:Grew g eu r b0:=⟨hv.grown,k4.2⟩;have hw:=k4.1;clear k4;have hy:OB b0 n8:=Ap a3 eq ac.lt;have hz:OB b0 ab:=Ap a3 er (bl hb38l);have ew:Ai b0 ax:=AM a3 es ae.2;have h0:Ai ax b0:=fun k h1 h2=>ew k h2 h1;have hE:=As hE a3 cn (Ae8 _);have f:=Aq f a3 c5;have t:=Aq t a3 g3;have hb38l:=Aq hb38l a3 er;have ac:=Aeh ac a3 eq;have ae:=Bi ae a3 es;have ah:=Aq ah a3 g4;have bb:=DK bb a3 g5;clear cn;refine gX ?_;have hbn:(bnext ps p s).b=s.b++ [1]++s.ids.getD m []++Bw (Cc (ps.getD m AD).bytes p.bytes):=by unfold bnext;simp only;rw[if_neg hC0,hm,Afg]
  refine gS (Aaz (xv:=NI i) (yv:=NI 1) ad rfl rfl (Ah _ _ _ (by omega)) ?_);have hdep:d2=(bnext ps p s).depths++Afk (ps.length-(i+1)) 0:=by rw[hd2];simp only[bnext,AfH,Aiw,Nat.sub_sub]
  refine gK (AfF ⟨i+1,bnext ps p s,b0,ax,T0,T5,T7,aq,ar,rfl,T8,T4,T6,hE,DB hw (by rw[hbn]),Bd ae (rfl),Ci ac ((Jj hB hin).symm),A5 hb38l (congrArg (AhV fun x=>NI x) hdep),hst3,by omega,hy,ew,hz,gw,h0,gy,trivial⟩ ?_);show ps.length-(intOf (NI ((i)+(1)))).toNat<ps.length-(intOf (de 30)).toNat;rw[q30];simp only[intOf,Afg];omega
 have hie:i=ps.length:=by omega
 have hfl:=B4 s.ids;have hsl:=Gb s.ids;refine gS (AaT GR (AaF (Aa5 hr_vb) T4) (gS (AaE TF T6 ((Qw _ vi (s.ids) (AaR hr_vi)).mono ?_))));rintro e kr ⟨rfl,b9⟩;refine⟨_,rfl,?_⟩;have hE:=hE.trans b9;have hr_vb:=Aed _ _ _ _ _ _ _ _ hr_vb b9;have hr_vi:=hr_vi.keep b9;have hb11l:=hb11l.keep b9;have hb38l:=eb b9 hb38l;refine gL (fun(ρ:Ae) (wz:Ae3)=>∃c:Nat,∃vc:Ae2,ρ 0=(v:Ae2)/\ρ 5=(.map (some n8):Ae2)/\ρ 6=(vi:Ae2)/\ρ 7=(.slice (some ⟨ab,0,none⟩) ps.length ps.length:Ae2)/\ρ 8=(NI s.total:Ae2)/\ρ 15=(NI ((s.b:AlJ).length):Ae2)/\ρ 28=(v:Ae2)/\ρ 29=(NI ps.length:Ae2)/\ρ 30=(NI i:Ae2)/\ρ 125=(.agg ((Bf (s.ids)).map fun x=>NI x).toArray:Ae2)/\ρ 126=(NI c:Ae2)/\ρ 4=(vc:Ae2)/\Ext w wz/\OG w.heap.size 33 32 (Ae4) wz vi (s.ids)/\MapF rk NI (fun id:AlJ =>id.length=32) wz n8 (Bz s)/\wz.heap[ab]? =some (.cells (dl.map fun x=>NI x).toArray 3 (0,0))/\wz.ownsRow w.heap.size 5 1 vc (s.b++((Bf s.ids).take c).flatMap Ba:AlJ).length (Ae4 (s.b++((Bf s.ids).take c).flatMap Ba))/\(c<=256)/\(OB vc n8)/\(Ai vc vi)/\(OB vc ab)/\True) (fun ρ _=>256-(intOf (ρ 126)).toNat) ⟨0,vb,T0,T5,T6,T7,T8,rfl,aq,ar,ad,rfl,rfl,T4,hE,hr_vi,hb11l,hb38l,DB hr_vb (by simp),by omega,hap_vb_n8,hap_vb_vi,hap_vb_n24,trivial⟩ ?_;clear hr_vb;clear hE hr_vi hb11l hb38l;rintro h3 h4 ⟨c,vc,T0,T5,T6,T7,T8,ca,aq,ar,ad,cb,bs,T4,hE,hr_vi,hb11l,hb38l,hr_vc,hcl,hap_vc_n8,hap_vc_vi,hap_vc_n24,-⟩;have q126:=bs;have hbl:(s.b++((Bf s.ids).take c).flatMap Ba).length<=40000:=by rw[Ae9,Ln,Afi];omega
 have hfc:=JT s.ids c;refine gS (Aay (a:=(c:Nat)) (b:=(256:Nat)) bs rfl (AE _ _ _ _) ?_);refine cD rfl (fun h5=> ?_) fun h5=> ?_
 ·refine gS (AcY (l:=Bf (s.ids)) (i:=c) Ev Vx rfl HT cb bs (by omega) (by rw[hfl]) (gS (AaA Jl T4 rfl ((Kw w _ hE vc (s.b++((Bf s.ids).take c).flatMap Ba) ((Bf (s.ids)).getD (c) 0) (by have:=JT s.ids c;omega) (by omega) hr_vc).mono ?_))));rintro e ks ⟨co,rfl,h6,bt⟩;refine⟨_,rfl,?_⟩;have h7:OB co n8:=Ap bt hap_vc_n8 hb11l.lt;have h8:Ai co vi:=AM bt hap_vc_vi hr_vi.2;have h9:OB co ab:=Ap bt hap_vc_n24 (bl hb38l);have hE:=As hE bt hr_vc (Ae8 _);have hr_vi:=Bi hr_vi bt hap_vc_vi;have hb11l:=Aeh hb11l bt hap_vc_n8;have hb38l:=Aq hb38l bt hap_vc_n24;clear hr_vc;refine gS (Aaz (xv:=NI c) (yv:=NI 1) bs rfl rfl (Ah _ _ _ (by omega)) (gK (AfF ⟨c+1,co,T0,T5,T6,T7,T8,ca,aq,ar,ad,cb,rfl,rfl,hE,hr_vi,hb11l,hb38l,DB h6 (by rw[Lo (Bf s.ids) c 0 (by rw[hfl];omega),Ah6,Af3,Akr,AgG,AfH]),by omega,h7,h8,h9,trivial⟩ ?_)));show 256-(intOf (NI ((c)+(1)))).toNat<256-(intOf (h3 126)).toNat;rw[q126];simp only[intOf,Afg];omega
 refine gS (AaE VI T6 ((Om _ vi (s.ids) (by omega) (AaR hr_vi)).mono ?_));rintro e kt ⟨bk,rfl,y,cc⟩;refine⟨_,rfl,?_⟩;have ku:=hE.size;have ia:Ai vc bk:=D7 hr_vc y.2;have hE:=hE.trans cc;have hr_vi:=hr_vi.keep cc;have hb11l:=hb11l.keep cc;have hb38l:=eb cc hb38l;have hr_vc:=Aed _ _ _ _ _ _ _ _ hr_vc cc;refine gS (AaW Oi (AaD (AaR y) rfl) (gL (fun(ρ:Ae) (wz:Ae3)=>∃j:Nat,∃ve:Ae2,ρ 0=(v:Ae2)/\ρ 5=(.map (some n8):Ae2)/\ρ 6=(vi:Ae2)/\ρ 7=(.slice (some ⟨ab,0,none⟩) ps.length ps.length:Ae2)/\ρ 8=(NI s.total:Ae2)/\ρ 15=(NI ((s.b:AlJ).length):Ae2)/\ρ 28=(v:Ae2)/\ρ 29=(NI ps.length:Ae2)/\ρ 30=(NI i:Ae2)/\ρ 125=(.agg ((Bf (s.ids)).map fun x=>NI x).toArray:Ae2)/\ρ 126=(NI c:Ae2)/\ρ 134=(bk:Ae2)/\ρ 135=(NI (((AR (s.ids))).length):Ae2)/\ρ 136=(NI j:Ae2)/\ρ 4=(ve:Ae2)/\Ext w wz/\OG w.heap.size 33 32 (Ae4) wz vi (s.ids)/\MapF rk NI (fun id:AlJ =>id.length=32) wz n8 (Bz s)/\wz.heap[ab]? =some (.cells (dl.map fun x=>NI x).toArray 3 (0,0))/\OG h4.heap.size 33 32 Ae4 wz bk (AR (s.ids))/\wz.ownsRow w.heap.size 5 1 ve (s.b++(Bf s.ids).flatMap Ba++((AR s.ids).take j).flatMap (fun id=>id++Ba ((Bz s id).getD 0)):AlJ).length (Ae4 (s.b++(Bf s.ids).flatMap Ba++((AR s.ids).take j).flatMap (fun id=>id++Ba ((Bz s id).getD 0))))/\(j<=s.ids.length)/\(OB ve n8)/\(Ai ve vi)/\(OB ve ab)/\(Ai ve bk)/\True) (fun ρ _=>s.ids.length-(intOf (ρ 136)).toNat) ⟨0,vc,T0,T5,T6,T7,T8,ca,aq,ar,ad,cb,bs,rfl,rfl,rfl,T4,hE,hr_vi,hb11l,hb38l,y,DB hr_vc (by rw[show c=256 by omega,AfU (by rw[hfl];omega)];simp),by omega,hap_vc_n8,hap_vc_vi,hap_vc_n24,ia,trivial⟩ ?_));clear hr_vc;clear hE hr_vi hb11l hb38l y;rintro ib ic ⟨j,ve,T0,T5,T6,T7,T8,ca,aq,ar,ad,cb,bs,ex,ey,cp,T4,hE,hr_vi,hb11l,hb38l,y,hr_ve,hjl,hap_ve_n8,hap_ve_vi,hap_ve_n24,hap_ve_v351,-⟩;have q136:=cp;have hbl2:(s.b++(Bf s.ids).flatMap Ba++((AR s.ids).take j).flatMap (fun id=>id++Ba ((Bz s id).getD 0))).length<=60000:=by rw[Ae9,Ae9,Ln,hfl,Ov (fun id=>(Bz s id).getD 0) _ (fun x hx=>hB.len x ((sortB_perm _).subset (List.mem_of_mem_take hx))),Afi];omega
 refine gS (Aay (a:=(j:Nat)) (b:=(((AR (s.ids))).length:Nat)) cp ey (AE _ _ _ _) ?_);refine cD rfl (fun ie=> ?_) fun ie=> ?_
 ·have ez:((AR s.ids).getD j []).length=32:=hB.len _ ((sortB_perm _).subset (getD_mem [] (by omega)));obtain⟨q2,hq2,hqm⟩:∃q,Bz s ((AR s.ids).getD j [])=some q/\q∈s.places:=Ep s.ids s.places _ (by omega) ((sortB_perm _).subset (getD_mem [] (by omega)));have hq2l:=hB.pl q2 hqm;have b1:(Ae4 (((AR (s.ids))).getD (j) ([]:AlJ))).length=32:=(Aec (AaR y) ([]:AlJ) (by omega));refine gS (AaZ Oi Td (by decide) ([]:AlJ) (AaD (AaR y) ex) cp (by omega) fun kv e1=>(gS (Aa4 (Aa6 e1 rfl) XM rfl (by rw[b1];exact SY) (gS (Ad9 VA fun bm ig e2 e3 cq kw=> ?_)))));have bc:=Ad4 ic;have kx:=hE.size;have ky:=Av hb11l.lt e2;have kz:=Av (bl hb38l) e2;have e5:OB ve bm:=A4 hr_ve (by omega);have ih:OB vi bm:=A4 hr_vi.2 (by omega);have ii:OB bk bm:=A4 y.2 (by omega);have ao:=e3;clear e3;have k0:bm<ig.heap.size:=by omega
  refine gS (AaB (vr (PQ bm 0) rfl) (vr (AB (((AR (s.ids))).getD (j) ([]:AlJ))) rfl) ao (by exact Bp (Ay (b1)) Afp) (by exact Ac (Ay (b1))) (Ag _) fun k1 e6 cr k2=> ?_);have hb11l:=hb11l.keep cq;have hb11l:=Ad8 hb11l cr (Ak (by omega));clear ao;have ao:=e6;clear e6;have k3:=bl ao;clear e1;refine Ed [0,1,3,4,5,2,6,7] [2,6,7] [] [4,5] fun ij cd=> ?_;have bc:=bc.trans cq;have bc:=Ab bc cr (Ae7 (Ae8 _) (by omega));have bc:=bc.trans cd;have hE:=hE.trans bc;have hr_ve:=Aed _ _ _ _ _ _ _ _ hr_ve bc;have hb11l:=hb11l.keep cd;have ao:=eb cd ao;refine m2 (A:=fun wz=>wz.heap[bm]? =some (.cells (Ae4 (((AR (s.ids))).getD (j) ([]:AlJ))).toArray 33 (0,0))) ao (B:=fun wz=>MapF rk NI (fun id:AlJ =>id.length=32) wz n8 (Bz s)) hb11l ?_;refine ys (Abt XM Rg rfl zz) (yf (fun _ ⟨ao,_,_⟩=>AaC rfl ao XM rfl (by exact Ac (Ay (b1))) zz) (yf (fun _ ⟨_,hb11l,_⟩=>AbC (ek:=rk) (ev:=NI) (D:=(fun id:AlJ =>id.length=32)) Cu Cv (fun _ _=>Cp) Ey (z:=NI 0) HU T5 rfl hb11l (Ay (b1)) hq2 zz) (yI (Abc _ _ w.heap.size (.int .u8 0) GR NU rfl GR (s.b++(Bf s.ids).flatMap Ba++((AR s.ids).take j).flatMap (fun id=>id++Ba ((Bz s id).getD 0))) (((AR (s.ids))).getD (j) ([]:AlJ)) (Dd hr_ve T4) (AaF (AbH ao (Ay (b1)) (by decide)) (vr (.slice (some ⟨bm,0,none⟩) 32 32) rfl)) (by rw[ez];omega) hE.size fun bu ik c7 av=> ?_))));have av:Grew ij ik ve bu:= .eqv T4 av;have e7:OB bu n8:=Ap av hap_ve_n8 hb11l.lt;have hr_vi:=hr_vi.keep cq;have hr_vi:=Aei hr_vi cr ih;have hr_vi:=hr_vi.keep cd;have e8:Ai bu vi:=AM av hap_ve_vi hr_vi.2;have hb38l:=eb bc hb38l;have e9:OB bu ab:=Ap av hap_ve_n24 (bl hb38l);have y:=y.keep cq;have y:=Aei y cr ii;have y:=y.keep cd;have fa:Ai bu bk:=AM av hap_ve_v351 y.2;have il:OB bu bm:=Ap av e5 (bl ao);have hE:=As hE av hr_ve (Ae8 _);have hr_vi:=Bi hr_vi av hap_ve_vi;have hb11l:=Aeh hb11l av hap_ve_n8;have hb38l:=Aq hb38l av hap_ve_n24;have y:=Bi y av hap_ve_v351;have ao:=Aq ao av e5;clear hr_ve;refine⟨⟨ao,hb11l,trivial⟩,?_⟩;refine yD rfl (AaA Jl rfl rfl ((Kw w _ hE bu (s.b++(Bf s.ids).flatMap Ba++((AR s.ids).take j).flatMap (fun id=>id++Ba ((Bz s id).getD 0))++((AR (s.ids))).getD (j) ([]:AlJ)) (q2) (by omega) (by rw[Ae9,ez];omega) c7).mono ?_));rintro e k5 ⟨ce,rfl,im,a7⟩;refine⟨_,rfl,?_⟩;have io:OB ce n8:=Ap a7 e7 hb11l.lt;have ip:Ai ce vi:=AM a7 e8 hr_vi.2;have iq:OB ce ab:=Ap a7 e9 (bl hb38l);have ir:Ai ce bk:=AM a7 fa y.2;have hE:=As hE a7 c7 (Ae8 _);have hr_vi:=Bi hr_vi a7 e8;have hb11l:=Aeh hb11l a7 e7;have hb38l:=Aq hb38l a7 e9;have y:=Bi y a7 fa;have ao:=Aq ao a7 il;clear c7;refine yD rfl (Aek rfl (gS (Aaz (xv:=NI j) (yv:=NI 1) cp rfl rfl (Ah _ _ _ (by omega)) (gK (AfF ⟨j+1,ce,T0,T5,T6,T7,T8,ca,aq,ar,ad,cb,bs,ex,ey,rfl,rfl,hE,hr_vi,hb11l,hb38l,y,DB im (by rw[Lo (AR s.ids) j [] (by rw[hsl];omega),Ah6,Af3,Akr,AgG];simp only[hq2,Option.getD_some,AfH]),by omega,io,ip,iq,ir,trivial⟩ ?_)))));show s.ids.length-(intOf (NI ((j)+(1)))).toNat<s.ids.length-(intOf (ib 136)).toNat;rw[q136];simp only[intOf,Afg];omega
 refine gS (AaA Jl T4 ca ((Kw w _ hE ve (s.b++(Bf s.ids).flatMap Ba++((AR s.ids).take j).flatMap (fun id=>id++Ba ((Bz s id).getD 0))) ((s.b:AlJ).length) (by omega) (by omega) hr_ve).mono ?_));rintro e iu ⟨bd,rfl,aw,be⟩;refine⟨_,rfl,?_⟩;have iv:OB bd n8:=Ap be hap_ve_n8 hb11l.lt;have iw:Ai bd vi:=AM be hap_ve_vi hr_vi.2;have ix:OB bd ab:=Ap be hap_ve_n24 (bl hb38l);have iy:Ai bd bk:=AM be hap_ve_v351 y.2;have hE:=As hE be hr_ve (Ae8 _);have hr_vi:=Bi hr_vi be hap_ve_vi;have hb11l:=Aeh hb11l be hap_ve_n8;have hb38l:=Aq hb38l be hap_ve_n24;have y:=Bi y be hap_ve_v351;clear hr_ve;obtain⟨C,hCd⟩:∃C,C=s.b++CC s s.b.length:=⟨_,rfl⟩;have aw:iu.ownsRow w.heap.size 5 1 bd (C:AlJ).length (Ae4 (C)):=(by rw[hCd,AfU (by rw[hsl];omega)];unfold CC;simp only[AfH]:(s.b++(Bf s.ids).flatMap Ba++((AR s.ids).take j).flatMap (fun id=>id++Ba ((Bz s id).getD 0)):AlJ)++Ba ((s.b:AlJ).length)=C)▸aw;have hCl:C.length<=60000:=by rw[hCd,Ae9,HC hB];omega
 refine gS (Abf GV (AaF (Aa5 aw) (vr bd rfl)) fun iz k6 i0 fb=> ?_);have hE:=hE.trans fb;refine gS (AaE KB rfl ((GJ _ (hG.keep hE) iz (C) i0 (by omega)).mono ?_));rintro e i1 ⟨rfl,fc⟩;refine⟨_,rfl,?_⟩;refine gS (Ad9 VA fun cs i2 fd fe cf k7=> ?_);have b2:=Ad4 i1;have hE:=hE.trans fc;have i3:=hE.size;have hZ3:=fb.trans fc;have hb11l:=hb11l.keep hZ3;have k8:=Av hb11l.lt fd;have hb38l:=eb hZ3 hb38l;have k9:=Av (bl hb38l) fd;have aw:=Aed _ _ _ _ _ _ _ _ aw hZ3;have ff:OB bd cs:=A4 aw (by omega);have bv:=fe;clear fe;have la:cs<i2.heap.size:=by omega
 refine gS (AaB (vr (PQ cs 0) rfl) (vr (AB (Sha.sum (C))) rfl) bv (by exact Bp (Sha.sum_length _) Afp) (by exact Ac (Sha.sum_length _)) (Ag _) fun i4 fg cg lb=> ?_);have hb11l:=hb11l.keep cf;have hb11l:=Ad8 hb11l cg (Ak (by omega));clear bv;have bv:=fg;clear fg;have lc:=bl bv;have hE:=hE.trans cf;have hE:=Ab hE cg (Ae7 i3 (by omega));have aw:=Aed _ _ _ _ _ _ _ _ aw cf;have aw:=BT aw cg ff;refine gS (Abt XM Rg rfl (gS (Abc _ _ w.heap.size (.int .u8 0) GR NU rfl GR (C) (Sha.sum (C)) (Dd aw (vr bd rfl)) (AaF (AbH bv (Sha.sum_length _) (by decide)) (vr (.slice (some ⟨cs,0,none⟩) 32 32) rfl)) (by rw[Sha.sum_length];omega) hE.size fun fh i5 fi bn=> ?_)));have bn:Grew i4 i5 bd fh:=bn;have b2:=b2.trans cf;have b2:=Ab b2 cg (Ae7 (Ae8 _) (by omega));have hr_vi:=hr_vi.keep (hZ3.trans b2);have hb38l:=eb cf hb38l;have hb38l:=kb cg hb38l (by omega);have y:=y.keep (hZ3.trans b2);have hE:=As hE bn aw (Ae8 _);have hr_vi:=Bi hr_vi bn iw;have hb11l:=Aeh hb11l bn iv;have hb38l:=Aq hb38l bn ix;have y:=Bi y bn iy;have bv:=Aq bv bn ff;clear aw;refine gS (AaT GR (AaF (Aa5 fi) rfl) (gS (Aay (a:=((C++Sha.sum (C):AlJ).length:Nat)) (b:=(1048576:Nat)) rfl rfl (Bj _ _ _ _) (kF (by simp only[Ae9,Sha.sum_length];omega) (gS (Aay (a:=(s.total:Nat)) (b:=(4194304:Nat)) T8 rfl (Bj _ _ _ _) (kF (by omega) (gS (AaX rfl rfl (cF rfl (BI rfl (vr fh rfl) (vr (NI 0) rfl) ?_)))))))))));rw[TA (show C7 ps ps.length = .ok s from by rw[<-hie];exact hs)];refine⟨_,rfl,?_,hE⟩;have hfin:=BM fi (show w.heap.size<=w.heap.size by first | exact Ae8 _ | omega);rw[hCd]at hfin;exact hfin
end Go.Proofs.YtfpekahfdalfkaaGreatDoor
