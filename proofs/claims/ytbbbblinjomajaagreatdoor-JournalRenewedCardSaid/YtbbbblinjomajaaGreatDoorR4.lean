/- Part 4 of what stands behind these statements: laws and walks of the functions that are reached. Conditions: those that each theorem names. -/
import Derived.Test.YtbbbblinjomajaaGreatDoorR3
set_option linter.unusedVariables false
set_option linter.unusedSimpArgs false
namespace Go.Proofs.YtbbbblinjomajaaGreatDoor
open _root_.Go renaming Value->Acr,World->Acs,MapEntry->AeQ,Program->AcN,TypeId->Acz,Operand->AcD,binOp->Adb
open _root_.List renaming length_map->AdQ,mem_cons->Ac8,filter_eq_self->Ahw,mem_map->Ado,eq_nil_of_length_eq_zero->Adn,mem_map_of_mem->AeC,map_cons->AcL,mem_cons_self->AdH,mem_cons_of_mem->AdF,getD_eq_getElem?_getD->AcA,getElem?_eq_getElem->AcG,getElem_mem->AdX,getElem?_eq_none->Ad5,mem_append->Adf,mem_singleton->Ada,length_set->Aez,mem_or_eq_of_mem_set->AeW,length_append->Acx,length_take->AcS,mem_mapIdx->AfA,take_sublist->AfG,length_mapIdx->AfC,length_singleton->Ac2,getElem?_append_right->AdD,getElem?_append_left->AdM,getElem?_set_self->Ag5,getElem?_set_ne->Ahi,flatMap_cons->Adm,all_eq_true->Ads,take_succ_eq_append_getElem->AdR,all_append->AgQ,take_of_length_le->Ac7,length_cons->AcK,map_toArray->AcJ,map_nil->AcR,all_cons->Ahl,toArray->Ac4,nil_append->Ac9,mem_iff_getElem->AdA,pairwise_iff_getElem->Aev,take_length->AdY,drop_eq_nil_of_le->Ag7,append_toArray->Adh,cons_append->Ac3,pairwise_append->Afq,takeWhile_sublist->Afc,pairwise_cons->AeK,dropWhile_sublist->Afd,getElem_mapIdx->Ahx,take_append_of_le_length->Aff
open _root_.Array renaming getElem?_eq_some_iff->Adg,toList_filter->AfY,filter->AhG,getElem?_setIfInBounds->Aei
open _root_.Prod renaming fst->Adr
open _root_.Go.Sem renaming run_bind->AcC,run_pure->AcE,run->AfO
open _root_.Go.Result renaming andThen_ok->AcB,andThen->Adj
open _root_.Nat renaming le_refl->Acy,lt_of_lt_of_le->AdO,le_add_right->Aeh,zero_le->AcO,le_trans->Acw,sub_self->AgC,zero_add->Aec,add_mul->AdN,not_lt_zero->AdB,le_of_ble_eq_true->AcF,min_eq_left->Ae7,lt_irrefl->Agh,mul_le_mul_left->Afx,le_succ_of_le->Ago,le_succ->Af8
open _root_.Go.RowKit.Below renaming refl->Adp
open _root_.List.Pairwise renaming of_map->Afr,map->Agm,sublist->Ahb
open _root_.Go.Instr renaming next->Afo,buildSlice->Ac1,build->Adu
open _root_.Bool renaming false_eq_true->AdV,eq_false_iff->Agl,and_eq_true->AcZ
open _root_.Go.World.grownBy renaming refl->Ac0
open _root_.Int renaming emod->AeR,toNat_natCast->AcX,tmod->Afe
open _root_.Option.some renaming inj->AcY
open _root_.Go.World renaming ownsRow_nil->Ad1,block_lt_of_cell?->AdE,ownsRow->Aho
open _root_.Go.Proofs.Tryz renaming prog->Acu,underlying4->AfK,isAgg4->AhS,sizeOf4->AhH,zeroValue4->AgU,underlying0->AgE,isAgg0->AhT,sizeOf0->AhI,zeroValue0->AgV,underlying9->AfL,isAgg9->Ag6,sizeOf9->AgF,zeroValue9->AfV,underlying114->Agb,isAgg114->Ahn,sizeOf114->Ahc,zeroValue114->Agn
open _root_.Go.Value renaming slice->AcI,ownBlock->Adc,int->AeJ
open Go.RowKit
section
variable {α β : Type} (ek : α -> Acr) (ev : β -> Acr)
def MIt(w:Acs)(g bm:Nat)(left:List (α × β)):Prop:=
 ∃es clock since seen c0,w.heap[g]? =some (.mapIter (some bm) since seen c0)/\w.heap[bm]? =some (.map es clock)/\MapKept.Stamped es clock/\(∀x∈es.toList,x.born<since)/\since<=c0/\since<=clock/\((leftOf es seen).toList.map fun e=>(e.key,e.val)).Perm (left.map fun p=>(ek p.1,ev p.2))
def XH(w:Acs)(g bm:Nat)(a:α)(y:β):Prop:=
 ∃(es:Array AeQ) (clock since:Nat) (seen:Array Nat) (e:AeQ),w.heap[g]? =some (.mapIter (some bm) since (seen.push e.born) clock)/\w.heap[bm]? =some (.map es clock)/\(es.toList.map (·.born)).Nodup/\e∈es.toList/\e.key=ek a/\e.val=ev y
end
def ZL(w:Acs)(g:Nat):Nat:=match w.heap[g]? with
 | some (.mapIter (some bm) _ seen _)=>(match w.heap[bm]? with | some (.map es _)=>(leftOf es seen).size | _=>0)
 | _=>0
theorem Aaq{α β:Type}{ek:α->Acr}{ev:β->Acr}{w:Acs}{g bm:Nat}{left:List (α × β)}(h:MIt ek ev w g bm left):ZL w g=left.length:=by
 obtain⟨es,clock,since,seen,c0,hg,hb,-,-,-,-,hp⟩:=h;have:=hp.length_eq;rw[AdQ,AdQ]at this;unfold ZL;rw[hg];simp only[hb];rw[<-this];simp
theorem MIt.lt{α β:Type}{ek:α->Acr}{ev:β->Acr}{w:Acs}{g bm:Nat}{left:List (α × β)}(h:MIt ek ev w g bm left):g<w.heap.size:=by
 obtain⟨es,clock,since,seen,c0,hg,-⟩:=h;exact(Adg.1 hg).1
theorem Mk{e:AeQ}:∀ {l:List AeQ},(l.map (·.born)).Nodup->e∈l->l.Perm (e :: l.filter fun x=> !(x.born==e.born))
 | [],_,h=>by cases h
 | x :: l,hn,h=>by
  have hn' :=List.nodup_cons.1 hn;rcases Ac8.1 h with rfl | h
  ·have hf:l.filter (fun x=> !(x.born==e.born))=l:=Ahw.2 fun y hy=>by
    have:y.born≠e.born:=fun q=>hn'.1 (Ado.2 ⟨y,hy,q⟩)
    simpa using this
   rw[List.filter_cons_of_neg (by simp),hf]
  ·have hx:x.born≠e.born:=fun q=>hn'.1 (Ado.2 ⟨e,h,q.symm⟩);rw[List.filter_cons_of_pos (by simpa using hx)];exact((Mk hn'.2 h).cons x).trans (List.Perm.swap _ _ _)
theorem SR(es:Array AeQ)(seen:Array Nat)(b:Nat):(leftOf es (seen.push b)).toList=(leftOf es seen).toList.filter fun x=> !(x.born==b):=by
 unfold leftOf;simp only[AfY,List.filter_filter];refine List.filter_congr fun x _=> ?_;rw[Bool.eq_iff_iff];simp[and_comm]
theorem QI{es:Array AeQ}{seen:Array Nat}(h:(es.toList.map (·.born)).Nodup):((leftOf es seen).toList.map (·.born)).Nodup:=by
 unfold leftOf;rw[AfY];exact(List.filter_sublist.map _).nodup h
section
variable {P : AcN} {K : Acr -> Acs -> Prop} {ρ : Ah} {w : Acs} {d : Option Tmp} {ty : Acz} {pos : String} {af : Array Edge} {gd : Option (Nat × Bool)}
variable {α β : Type} {ek : α -> Acr} {ev : β -> Acr} {D : α -> Prop} {b : Nat} {G : α -> Option β} {t Kt E : Acz}
theorem Abm(hi:∀a c,ek a=ek c->a=c)(ht:P.underlying t=some (.map Kt E)){x:AcD}(hx:Ab ρ x = .map (some b))(h:MapF ek ev D w b G){ps:List (α × β)}(hn:(ps.map Adr).Nodup)(hG:∀a y,G a=some y↔(a,y)∈ps) 
  (hk:∀n w',w.heap.size=n->MIt ek ev w' n b ps->Ext w w' ->w'.heap.size=n+1->K (.pointer (some ⟨n,0,none⟩)) w'):Yk P K ((execOp (Ab ρ) ⟨d, .range t x,ty,pos,af,gd⟩).run P w):=by
 have hlt:=h.lt;obtain⟨es,c,hb,H,hS⟩:=h;have hr:(execOp (Ab ρ) ⟨d, .range t x,ty,pos,af,gd⟩).run P w = .ok (.value (.pointer (some ⟨w.heap.size,0,none⟩))) (w.alloc (.mapIter (some b) c #[] c)):=by
  unfold execOp;simp only[hx,AcC,run_range_map w t Kt E b _ c ht hb,AcB,AcE]
 rw[hr];refine hk _ _ rfl ⟨es.toArray,c,c,#[],c,heap_alloc_new _ _,(heap_alloc_old _ _ hlt).trans hb,hS,hS.1,Acy _,Acy _,?_⟩ ((Adp _ _).alloc (Acy _) _) (by simp);have h0:(leftOf es.toArray #[]).toList=es:=by
  unfold leftOf;rw[AfY];exact Ahw.2 fun _ _=>by simp
 rw[h0];refine(List.perm_ext_iff_of_nodup ?_ ?_).2 fun q=> ?_
 ·exact Afr (S:=(· ≠ ·)) Adr (fun a c hne e=>hne (by rw[e])) (by rw[List.map_map];exact H.keys)
 ·refine Agm _ (fun p q hne e=>hne ?_) (Afr (S:=(· ≠ ·)) (R:=fun p q:α × β=>p.1≠q.1) Adr (fun _ _ h=>h) hn);exact hi _ _ (congrArg Adr e)
 ·constructor
  ·intro hq;obtain⟨e,he,rfl⟩:=Ado.1 hq;obtain⟨a,y,-,h2,h3,h4⟩:=H.ent e he;exact Ado.2 ⟨(a,y),(hG a y).1 h4,by rw[h2,h3]⟩
  ·intro hq;obtain⟨p,hp,rfl⟩:=Ado.1 hq;have hg:=(hG p.1 p.2).2 hp;obtain⟨-,e,he,hek⟩:=H.all p.1 p.2 hg;obtain⟨a,y,-,h2,h3,h4⟩:=H.ent e he;have ha:a=p.1:=hi _ _ (h2.symm.trans hek);rw[ha,hg]at h4;cases h4;exact Ado.2 ⟨e,he,by rw[hek,h3]⟩
theorem AaC{x:AcD}{g bm:Nat}{left:List (α × β)}(hx:Ab ρ x = .pointer (some ⟨g,0,none⟩))(h:MIt ek ev w g bm left) 
  (h0:left= []->K (.tuple #[.bool false]) w) (h1:∀a y rest w',left.Perm ((a,y) :: rest)->MIt ek ev w' g bm rest->XH ek ev w' g bm a y->w.grownBy w' (some g)->w'.heap.size=w.heap.size->K (.tuple #[.bool true,ek a,ev y]) w'):
  Yk P K ((execOp (Ab ρ) ⟨d, .next x false,ty,pos,af,gd⟩).run P w):=by
 obtain⟨es,clock,since,seen,c0,hg,hb,hS,hold,hsc,hck,hp⟩:=h;have hgl:=(Adg.1 hg).1;have hne:bm≠g:=fun e=>by rw[e,hg]at hb;cases hb
 have hlp:=hp.length_eq;rw[AdQ,AdQ]at hlp;have hL:(leftOf es seen).toList.length=(leftOf es seen).size:=by simp
 by_cases hz:(leftOf es seen).size=0
 ·have hr:(Afo (.pointer (some ⟨g,0,none⟩)) false ty).run P w = .ok (.tuple #[.bool false]) w:=by
   simp only[Afo,getObj,AcC,AfO,hg,hb,Adj,next_test_false seen es since c0 hold hsc,AdV,if_false];unfold leftOf at hz;have hz' :AhG (fun e=> !seen.contains e.born) es = #[]:=Array.eq_empty_of_size_eq_zero hz;rw[hz'];simp[choose,AfO,Question.forced]
  unfold execOp;simp only[hx,hr,AcC,AcB,AcE];exact h0 (Adn (by omega))
 ·obtain⟨e,he,w1,hw1,hsz1,hr⟩:∃e∈(leftOf es seen).toList,∃w1:Acs,w.grownBy w1 none/\w1.heap=w.heap/\(Afo (.pointer (some ⟨g,0,none⟩)) false ty).run P w = .ok (.tuple #[.bool true,e.key,e.val]) { w1 with heap:=w1.heap.setIfInBounds g (.mapIter (some bm) since (seen.push e.born) clock) } :=by
   simp only[Afo,getObj,AcC,AfO,hg,hb,Adj,next_test_false seen es since c0 hold hsc,AdV,if_false];unfold leftOf at hz ⊢;have hmem:∀x∈(AhG (fun e=> !seen.contains e.born) es).toList,x.born<since:=fun x hx=>hold x (by simp at hx ⊢;exact hx.1)
   generalize AhG (fun e=> !seen.contains e.born) es=L at hmem hz ⊢
   have l:L.filter (fun x=>decide (x.born<since))=L:=Array.filter_eq_self.2 (fun x hx=>by simpa using hmem x (by simpa using hx));have m:L.filter (fun x=>decide (x.born>=since)) = #[]:=by
    rw[Array.filter_eq_empty_iff];intro x hx;have:=hmem x (by simpa using hx);simp;omega
   simp only[l,m,Array.append_empty];have hne' :L.isEmpty=false:=by simp[Array.isEmpty,hz]
   simp only[hne',AdV,if_false,Array.empty_append,Array.size_map];have hch:∃(j:Nat) (w1:Acs),j<L.size/\w.grownBy w1 none/\w1.heap=w.heap/\(choose (Question.mapNext L.size)).run P w = .ok j w1:=by
    by_cases hf:L.size<=1
    ·exact⟨0,w,by omega,Ac0 _ _,rfl,by simp[choose,AfO,Question.forced,hf]⟩
    ·exact⟨_,w.drew,Nat.mod_lt _ (by omega),(Acp w undef).drew.by_,rfl,by
      simp only[choose,AfO,Question.forced,decide_eq_true_eq,hf,if_false,Question.cut];rfl⟩
   obtain⟨j,w1,hj,hal,hwh,hrun⟩:=hch;refine⟨L[j],by simp,w1,hal,hwh,?_⟩;simp only[hrun,Array.getElem?_map,Array.getElem?_eq_getElem hj,Option.map_some,AcC,Adj,setObj,AfO,hwh,hg];rfl
  have hmk:(e.key,e.val)∈left.map fun p=>(ek p.1,ev p.2):=hp.mem_iff.1 (AeC (f:=fun e:AeQ=>(e.key,e.val)) he);obtain⟨p,hpm,hpe⟩:=Ado.1 hmk;obtain⟨rest,hrest⟩:∃rest,left.Perm (p :: rest):=by
   obtain⟨s,t,hst⟩:=List.append_of_mem hpm;exact⟨s++t,by rw[hst];exact List.perm_middle⟩
  have b:ek p.1=e.key:=congrArg Adr hpe;have c:ev p.2=e.val:=congrArg Prod.snd hpe;unfold execOp;simp only[hx,hr,AcC,AcB,AcE];rw[<-b,<-c];have hgr:w.grownBy { w1 with heap:=w1.heap.setIfInBounds g (.mapIter (some bm) since (seen.push e.born) clock) } (some g):=
   ⟨hw1.os,hw1.tape,hw1.output,by simp[hsz1],fun i _ hi=>by rw[hsz1];simp only[Aei];rw[if_neg (fun q=>hi (by rw[q]))]⟩
  have k:({ w1 with heap:=w1.heap.setIfInBounds g (.mapIter (some bm) since (seen.push e.born) clock) } :Acs).heap[bm]? =some (.map es clock):=by
   simp only[hsz1,Aei];rw[if_neg (fun q=>hne q.symm)];exact hb
  have hes:e∈es.toList:=by have:=he;unfold leftOf at this;simp at this ⊢;exact this.1
  refine h1 p.1 p.2 rest _ hrest ⟨es,clock,since,seen.push e.born,clock,by simp[hsz1,hgl],k,hS,hold,hck,hck,?_⟩ ⟨es,clock,since,seen,e,by simp[hsz1,hgl],k,hS.2.1,hes,b.symm,c.symm⟩ hgr (by simp[hsz1])
  ·have h2:=(Mk (QI (seen:=seen) hS.2.1) he).map fun e:AeQ=>(e.key,e.val);rw[<-SR]at h2;have h3:=(h2.symm.trans hp).trans (hrest.map fun p=>(ek p.1,ev p.2));rw[AcL,AcL,<-hpe]at h3;exact h3.cons_inv
theorem AaP{x:AcD}{g bm:Nat}{left:List (α × β)}(hx:Ab ρ x = .pointer (some ⟨g,0,none⟩))(h:MIt ek ev w g bm left)(h0:left= [])(hk:K (.tuple #[.bool false]) w):
  Yk P K ((execOp (Ab ρ) ⟨d, .next x false,ty,pos,af,gd⟩).run P w):=
 AaC hx h (fun _=>hk) fun a y rest w' hp _ _ _ _=>by rw[h0]at hp;exact absurd hp.length_eq (by simp)
theorem Aa7{x:AcD}{g bm:Nat}{left:List (α × β)}(hx:Ab ρ x = .pointer (some ⟨g,0,none⟩))(h:MIt ek ev w g bm left)(h0:left≠ []) 
 (hk:∀a y rest w',left.Perm ((a,y) :: rest)->MIt ek ev w' g bm rest->XH ek ev w' g bm a y->w.grownBy w' (some g)->w'.heap.size=w.heap.size->K (.tuple #[.bool true,ek a,ev y]) w'):
 Yk P K ((execOp (Ab ρ) ⟨d, .next x false,ty,pos,af,gd⟩).run P w):=AaC hx h (fun e=>absurd e h0) hk
theorem Abn{x:AcD}{g bm:Nat}{a:α}{y:β}(hx:Ab ρ x = .pointer (some ⟨g,0,none⟩))(h:XH ek ev w g bm a y)(hk:K (.tuple #[ek a,ev y]) w):
  Yk P K ((execOp (Ab ρ) ⟨d, .entry x,ty,pos,af,gd⟩).run P w):=by
 obtain⟨es,clock,since,seen,e,hg,hb,hn,he,h1,h2⟩:=h;have hf:es.find? (·.born==e.born)=some e:=by rw[<-Array.find?_toList];exact find_born e es.toList hn he
 have hr:(Instr.entry (.pointer (some ⟨g,0,none⟩))).run P w = .ok (.tuple #[e.key,e.val]) w:=by
  simp only[Instr.entry,getObj,AcC,AfO,hg,hb,Adj,Array.back?_push,bne_self_eq_false,AdV,if_false,hf];rfl
 unfold execOp;simp only[hx,hr,AcC,AcB,AcE];rw[h1,h2];exact hk
end
structure DirOk (n : Nat) (l : Bb) : Prop where
 sort:Dn l
 num:∀e∈l,e.2<n
 may:∀e∈l,Bn e.1=true
structure ActOk (n : Nat) (a : BP) : Prop where
 num:a.file<n
 may:a.to.length≠0->Bn a.to=true
 frm:a.frm.length<=80
structure DOk (d : Aj) : Prop where
 now:DirOk d.files.length d.now
 kept:DirOk d.files.length d.kept
 acts:∀a∈d.acts,ActOk d.files.length a
 syn:∀x∈d.files,x.2<=x.1.length
theorem DirOk.nil(n:Nat):DirOk n []:=⟨List.Pairwise.nil,fun _ h=>(by cases h),fun _ h=>(by cases h)⟩
abbrev Acq:=@DirOk.nil
theorem DirOk.mono{n m:Nat}{l:Bb}(h:DirOk n l)(hn:n<=m):DirOk m l:=⟨h.sort,fun e he=>AdO (h.num e he) hn,h.may⟩
theorem ActOk.mono{n m:Nat}{a:BP}(h:ActOk n a)(hn:n<=m):ActOk m a:=⟨AdO h.num hn,h.may,h.frm⟩
theorem DirOk.turn{n:Nat}{l:Bb}{a:BP}(h:DirOk n l)(ha:ActOk n a):DirOk n (turnD l a):=
 ⟨SP h.sort a,fun e he=>(Gs he).elim (h.num e) fun⟨_,q⟩=>q▸ha.num,fun e he=>(Gs he).elim (h.may e) fun⟨q,r⟩=>r▸ha.may q⟩
theorem DirOk.fold{n:Nat}:∀ {acs:List BP} {l:Bb},DirOk n l->(∀a∈acs,ActOk n a)->DirOk n (acs.foldl turnD l)
 | [],_,h,_=>h
 | a :: r,l,h,ha=>DirOk.fold (acs:=r) (l:=turnD l a) (h.turn (ha a AdH)) fun b hb=>ha b (AdF _ hb)
theorem DirOk.look{n:Nat}{l:Bb}(h:DirOk n l){s:AhU}{k:Nat}(hk:lookD l s=some k):k<n/\Bn s=true:=⟨h.num _ (EJ hk),h.may _ (EJ hk)⟩
theorem BQ{s:AhU}(h:Bn s=true):1<=s.length/\s.length<=80:=by
 unfold Bn at h
 simpa using h
theorem DirOk.noEmpty{n:Nat}{l:Bb}(h:DirOk n l):lookD l []=none:=FE.2 fun e he q=>by
 have:=BQ (h.may e he);rw[q]at this;simp at this
theorem Ml{d:Aj}{k:Nat}(h:k<d.files.length):Ap d k∈d.files:=by
 unfold Ap;rw[AcA,AcG h];exact AdX h
theorem DOk.sync_le{d:Aj}(h:DOk d)(k:Nat):(Ap d k).2<=(Ap d k).1.length:=by
 by_cases hk:k<d.files.length
 ·exact h.syn _ (Ml hk)
 ·unfold Ap;rw[AcA,Ad5 (by omega)];exact Acy 0
theorem DOk.turned{d:Aj}(h:DOk d){a:BP}(ha:ActOk d.files.length a):DOk (turnedD d a):=
 ⟨h.now.turn ha,h.kept,fun b hb=>(Adf.1 hb).elim (h.acts b) fun q=>Ada.1 q▸ha,h.syn⟩
theorem DOk.files{d:Aj}(h:DOk d)(fs:List (AhU × Nat))(hl:d.files.length<=fs.length)(hs:∀x∈fs,x.2<=x.1.length):DOk { d with files:=fs } :=
 ⟨h.now.mono hl,h.kept.mono hl,fun a ha=>(h.acts a ha).mono hl,hs⟩
theorem DOk.setFile{d:Aj}(h:DOk d)(k:Nat)(x:AhU × Nat)(hx:x.2<=x.1.length):DOk { d with files:=d.files.set k x } :=
 h.files _ (by rw[Aez];exact Acy _) fun y hy=>(AeW hy).elim (h.syn y) fun q=>q▸hx
theorem DOk.newFile{d:Aj}(h:DOk d)(x:AhU × Nat)(hx:x.2<=x.1.length):DOk { d with files:=d.files++ [x] } :=
 h.files _ (by rw[Acx];exact Aeh _ _) fun y hy=>(Adf.1 hy).elim (h.syn y) fun q=>Ada.1 q▸hx
theorem DOk.add{d:Aj}(h:DOk d){s:AhU}(b:AhU)(hs:Bn s=true):DOk (Bg d s b):=by
 unfold Bg;split
 ·rename_i k hk
  refine h.setFile k _ ?_;have:=h.sync_le k;simp only[Acx];omega
 ·have h1:=h.newFile (b,0) (AcO _);have h2:=h1.turned (a:=⟨[],s,d.files.length⟩) ⟨by simp,fun _=>hs,AcO _⟩;exact h2
theorem Ej(d:Aj):(BY d).1.files=d.files/\(BY d).1.now=d.now/\(BY d).1.kept=d.kept/\(BY d).1.acts=d.acts/\(BY d).1.quota=d.quota/\(BY d).1.refused=d.refused:=by
 unfold BY;split <;> exact⟨rfl,rfl,rfl,rfl,rfl,rfl⟩
theorem DOk.synced{d:Aj}(h:DOk d)(k:Nat):DOk { d with files:=d.files.set k ((Ap d k).1,(Ap d k).1.length),kept:=d.now,acts:= [] } :=by
 have h1:=h.setFile k ((Ap d k).1,(Ap d k).1.length) (Acy _);exact⟨h1.now,h1.now,fun a ha=>(by cases ha),h1.syn⟩
theorem UB{d:Aj}{s t:AhU}(h:Cy d s t=0):d.down=false/\Bn s=true/\Bn t=true:=by
 unfold Cy at h;split at h
 ·cases h
 ·rename_i hd
  split at h
  ·rename_i hm
   exact⟨Agl.2 hd,hm⟩
  ·cases h
theorem HT(l:List Int)(i:Nat){n:Nat}(hn:0<n):By l i n<n:=by
 unfold By;split
 ·have h1:=Int.emod_nonneg (l.getD i 0) (show((n:Nat):Int)≠0 by omega);have h2:=Int.emod_lt_of_pos (l.getD i 0) (show(0:Int)<((n:Nat):Int) by omega);show(AeR (l.getD i 0) ((n:Nat):Int)).toNat<n;have h1:0<=AeR (l.getD i 0) ((n:Nat):Int):=h1;have h2:AeR (l.getD i 0) ((n:Nat):Int)<((n:Nat):Int):=h2;omega
 ·exact hn
theorem Gt{d:Aj}(h:DOk d)(l:List Int)(i k:Nat):(E7 d l i k).1.length=(E7 d l i k).2/\(E7 d l i k).2<=(Ap d k).1.length:=by
 have h1:=h.sync_le k;have h2:=HT l (i+1) (n:=(Ap d k).1.length-(Ap d k).2+1) (by omega);unfold E7;simp only[AcS];omega
theorem Gu(l:Bb):(CV l).map Adr=l.map Adr:=by
 unfold CV;exact List.ext_getElem (by simp) fun i h1 h2=>by simp
theorem Mm{l:Bb}(h:Dn l):Dn (CV l):=by
 have h1:((CV l).map Adr).Pairwise fun a b=>Op.bytesLess a b=true:=by
  rw[Gu];exact h.map _ fun _ _ q=>q
 exact Afr Adr (fun _ _ q=>q) h1
theorem DirOk.numbered{n:Nat}{l:Bb}(h:DirOk n l):DirOk l.length (CV l):=
 ⟨Mm h.sort,fun e he=>by
  unfold CV at he;obtain⟨i,hi,rfl⟩:=AfA.1 he;exact hi,fun e he=>by
  have h1:e.1∈(CV l).map Adr:=AeC he;rw[Gu]at h1;obtain⟨x,hx,hxe⟩:=Ado.1 h1;rw[<-hxe];exact h.may x hx⟩
theorem DOk.left{d:Aj}(h:DOk d)(l:List Int):DirOk d.files.length (AH d l):=h.kept.fold fun a ha=>h.acts a ((AfG _ _).subset ha)
theorem DOk.crash{d:Aj}(h:DOk d)(l:List Int):DOk (Bo d l):=by
 have h1:=(h.left l).numbered;refine⟨?_,?_,fun a ha=>(by cases ha),fun x hx=> ?_⟩
 ·show DirOk ((AH d l).mapIdx _).length _;rw[AfC];exact h1
 ·show DirOk ((AH d l).mapIdx _).length _;rw[AfC];exact h1
 ·obtain⟨i,hi,rfl⟩:=AfA.1 hx;exact Nat.le_of_eq (Gt h l i _).1.symm
structure Chg (B : Nat -> Prop) (w w' : Acs) : Prop where
 os:w'.os=w.os
 tape:w'.tape=w.tape
 output:w'.output=w.output
 size:w.heap.size<=w'.heap.size
 blk:∀i,i<w.heap.size->¬B i->w'.heap[i]? =w.heap[i]?
theorem Chg.refl(B:Nat->Prop)(w:Acs):Chg B w w:=⟨rfl,rfl,rfl,Acy _,fun _ _ _=>rfl⟩
abbrev Acg:=@Chg.refl
theorem Chg.trans{B B' :Nat->Prop}{w w1 w2:Acs}(h:Chg B w w1)(k:Chg B' w1 w2)(hB:∀i,B' i->B i\/w.heap.size<=i):Chg B w w2:=
 ⟨k.os.trans h.os,k.tape.trans h.tape,k.output.trans h.output,Acw h.size k.size,fun i hi hn=>by
  have hs:=h.size;rw[k.blk i (by omega) (fun hb=>(hB i hb).elim hn (by omega)),h.blk i hi hn]⟩
theorem Chg.mono{B B' :Nat->Prop}{w w' :Acs}(h:Chg B w w')(hB:∀i,i<w.heap.size->B i->B' i):Chg B' w w' :=
 ⟨h.os,h.tape,h.output,h.size,fun i hi hn=>h.blk i hi fun hb=>hn (hB i hi hb)⟩
theorem Zw{w w' :Acs}{r:Option Nat}{B:Nat->Prop}(h:w.grownBy w' r)(hr:∀i,r=some i->B i\/w.heap.size<=i):Chg B w w' :=
 ⟨h.os,h.tape,h.output,h.size,fun i hi hn=>h.block i hi fun e=>(hr i e.symm).elim hn (by omega)⟩
theorem Chg.ofExt{w w' :Acs}{B:Nat->Prop}(h:Ext w w'):Chg B w w' :=Zw h.grown fun i e=>by cases e
abbrev Ab8:=@Chg.ofExt
theorem Chg.ext{w0 w w' :Acs}{B:Nat->Prop}(hE:Ext w0 w)(h:Chg B w w')(hB:∀i,B i->w0.heap.size<=i):Ext w0 w' :=by
 have h1:=hE.grown;have hs:=hE.size;exact(Adp _ _).grown (⟨h.os.trans h1.os,h.tape.trans h1.tape,h.output.trans h1.output,Acw hs h.size,fun i hi hn=>by
  rw[h.blk i (by omega) (fun hb=>by have:=hB i hb;omega),h1.block i hi hn]⟩:w0.grownBy w' none) (Acy _) (fun _ e=>by cases e)
theorem CY{base:Nat}{e:Acz}{size:Nat}{v:Acr}{n:Nat}{xs:List Acr}{B:Nat->Prop}{w w' :Acs}(hc:Chg B w w')(h:w.ownsRow base e size v n xs)(hB:∀i,v.ownBlock=some i->¬B i):w'.ownsRow base e size v n xs:=by
 refine⟨h.1,h.2.imp (fun x=>x) fun⟨g,cap,cur,a,c,b,r⟩=>⟨g,cap,cur,a,c,(hc.blk g (bl b) (hB g (by rw[a];rfl))).trans b,r⟩⟩
structure Dk where
 g:Nat
 mn:Nat
 ml:Nat
 va:Acr
 F:Nat->Nat
 V:Nat->Acr
def BR(H:Dk)(n:Nat)(i:Nat):Prop:=i=H.g\/i=H.mn\/i=H.ml\/H.va.ownBlock=some i\/∃k,k<n/\(i=H.F k\/(H.V k).ownBlock=some i)
structure FileAt (base : Nat) (w : Acs) (f : Nat) (v : Acr) (x : AhU × Nat) : Prop where
 blk:w.heap[f]? =some (.cells ([v,NI x.2]).toArray 120 (0,0))
 row:w.ownsRow base 5 1 v x.1.length (Lib.byteCells x.1)
 lo:base<=f
structure FilesAt (base : Nat) (w : Acs) (F : Nat -> Nat) (V : Nat -> Acr) (fs : List (AhU × Nat)) : Prop where
 at_:∀k,k<fs.length->FileAt base w (F k) (V k) (fs.getD k ([],0))
 inj:∀i j,i<fs.length->j<fs.length->F i=F j->i=j
 apart:∀i j,i<fs.length->j<fs.length->i≠j->∀x,(V i).ownBlock=some x->(V j).ownBlock≠some x
theorem FileAt.keep{base:Nat}{w w' :Acs}{f:Nat}{v:Acr}{x:AhU × Nat}(h:FileAt base w f v x){B:Nat->Prop}(hc:Chg B w w')(h1:¬B f)(h2:∀i,v.ownBlock=some i->¬B i):FileAt base w' f v x:=
 ⟨(hc.blk f (bl h.blk) h1).trans h.blk,CY hc h.row h2,h.lo⟩
theorem FilesAt.chg{base:Nat}{w w' :Acs}{F:Nat->Nat}{V:Nat->Acr}{fs:List (AhU × Nat)}(h:FilesAt base w F V fs){B:Nat->Prop}(hc:Chg B w w')(hB:∀k,k<fs.length->¬B (F k)/\∀i,(V k).ownBlock=some i->¬B i):FilesAt base w' F V fs:=
 ⟨fun k hk=>(h.at_ k hk).keep hc (hB k hk).1 (hB k hk).2,h.inj,h.apart⟩
def Yl:Prop:=True
def ActAt(w:Acs)(F:Nat->Nat)(v:Acr)(a:BP):Prop:=
 (∃bf bn,v = .func (.func 95) #[] #[PQ bf 0,PQ bn 0]/\w.heap[bf]? =some (.cells ([PQ (F a.file) 0]).toArray 112 (0,0))/\w.heap[bn]? =some (.cells ([St a.to]).toArray 9 (0,0))/\a.frm= []/\a.to.length≠0) \/
 (Yl/\∃bs bf bn,v = .func (.func 127) #[] #[PQ bs 0,PQ bf 0,PQ bn 0]/\w.heap[bs]? =some (.cells ([St a.frm]).toArray 9 (0,0))/\w.heap[bf]? =some (.cells ([PQ (F a.file) 0]).toArray 112 (0,0))/\w.heap[bn]? =some (.cells ([St a.to]).toArray 9 (0,0))/\a.to.length≠0) \/
 (∃bn,v = .func (.func 120) #[] #[PQ bn 0]/\w.heap[bn]? =some (.cells ([St a.frm]).toArray 9 (0,0))/\a.to= [])
def TyB(w:Acs)(i:Nat):Prop:=(∃es c,w.heap[i]? =some (.map es c))\/∃cs t fr,w.heap[i]? =some (.cells cs t fr)/\(t=82\/t=120\/t=5\/t=113)
theorem TyB.off{w:Acs}{i:Nat}{cs:Array Acr}{t:Acz}{fr:Nat × Nat}(h:w.heap[i]? =some (.cells cs t fr))(h1:t≠82)(h2:t≠120)(h3:t≠5)(h4:t≠113):¬TyB w i:=by
 rintro(⟨es,c,e⟩ | ⟨cs',t',fr',e,k⟩)
 ·rw[h]at e;cases e
 ·rw[h]at e;cases e;rcases k with k | k | k | k
  ·exact h1 k
  ·exact h2 k
  ·exact h3 k
  ·exact h4 k
theorem ActAt.chg{w w' :Acs}{F F' :Nat->Nat}{v:Acr}{a:BP}{B:Nat->Prop}(h:ActAt w F v a)(hc:Chg B w w')(hB:∀i,i<w.heap.size->B i->TyB w i)(hF:F' a.file=F a.file):ActAt w' F' v a:=by
 have k:∀ {b:Nat} {cs:Array Acr} {t:Acz} {fr:Nat × Nat},w.heap[b]? =some (.cells cs t fr)->t≠82->t≠120->t≠5->t≠113->w'.heap[b]? =some (.cells cs t fr):=fun e h1 h2 h3 h4=>(hc.blk _ (bl e) fun q=>TyB.off e h1 h2 h3 h4 (hB _ (bl e) q)).trans e;rcases h with ⟨bf,bn,e,h1,h2,h3,h4⟩ | ⟨hm,bs,bf,bn,e,h1,h2,h3,h4⟩ | ⟨bn,e,h1,h2⟩
 ·exact .inl ⟨bf,bn,e,by rw[hF];exact k h1 (by decide) (by decide) (by decide) (by decide),k h2 (by decide) (by decide) (by decide) (by decide),h3,h4⟩
 ·exact .inr (.inl ⟨hm,bs,bf,bn,e,k h1 (by decide) (by decide) (by decide) (by decide),by rw[hF];exact k h2 (by decide) (by decide) (by decide) (by decide),k h3 (by decide) (by decide) (by decide) (by decide),h4⟩)
 ·exact .inr (.inr ⟨bn,e,k h1 (by decide) (by decide) (by decide) (by decide),h2⟩)
abbrev pF(F:Nat->Nat)(k:Nat):Acr:=PQ (F k) 0
abbrev Nm(s:AhU):Prop:=s.length<=80
abbrev IS(q mn ml:Nat)(va:Acr)(rf ar:Nat)(dn:Bool):List Acr:= [NI q, .map (some mn), .map (some ml),va,NI rf,NI ar, .bool dn]
structure N3 (base : Nat) (w : Acs) (va : Acr) (F : Nat -> Nat) (acs : List BP) (vs : List Acr) : Prop where
 row:w.ownsRow base 113 1 va vs.length vs
 len:vs.length=acs.length
 at_:∀i,i<acs.length->ActAt w F (vs.getD i undef) (acs.getD i ⟨[],[],0⟩)
structure DkS (base : Nat) (w : Acs) (H : Dk) (D : Aj) : Prop where
 blk:w.heap[H.g]? =some (.cells (IS D.quota H.mn H.ml H.va D.refused D.arm D.down).toArray 82 (0,0))
 now:MapF St (pF H.F) Nm w H.mn (lookD D.now)
 kept:MapF St (pF H.F) Nm w H.ml (lookD D.kept)
 ne:H.mn≠H.ml
 acts:∃vs,N3 base w H.va H.F D.acts vs
 files:FilesAt base w H.F H.V D.files
 ok:DOk D
 lo:base<=H.g/\base<=H.mn/\base<=H.ml
def Cz(w:Acs)(i:Nat):Option Nat:=match w.heap[i]? with | some (.map _ _)=>some 0 | some (.cells _ t _)=>some (t+1) | _=>none
theorem Bp{w:Acs}{i:Nat}{cs:Array Acr}{t:Acz}{fr:Nat × Nat}(h:w.heap[i]? =some (.cells cs t fr)):Cz w i=some (t+1):=by unfold Cz;rw[h]
theorem ET{base:Nat}{e:Acz}{size:Nat}{v:Acr}{n:Nat}{xs:List Acr}{w:Acs}(h:w.ownsRow base e size v n xs){i:Nat}(hi:v.ownBlock=some i):Cz w i=some (e+1):=by
 rcases h.2 with ⟨rfl,-⟩ | ⟨g,cap,cur,rfl,b,a,-⟩
 ·cases hi
 ·obtain rfl:g=i:=AcY hi;exact Bp a
theorem MapF.tag{α β:Type}{ek:α->Acr}{ev:β->Acr}{D:α->Prop}{w:Acs}{b:Nat}{G:α->Option β}(h:MapF ek ev D w b G):Cz w b=some 0:=by
 obtain⟨es,c,h,-⟩:=h;unfold Cz;rw[h]
theorem MapF.congr{α β:Type}{ek:α->Acr}{ev ev' :β->Acr}{D:α->Prop}{w:Acs}{b:Nat}{G:α->Option β}(h:MapF ek ev D w b G)(he:∀a y,G a=some y->ev' y=ev y):MapF ek ev' D w b G:=by
 obtain⟨es,c,h1,h2,h3⟩:=h;exact⟨es,c,h1,⟨h2.keys,fun e he' =>by
  obtain⟨a,y,k1,k2,k3,k4⟩:=h2.ent e he';exact⟨a,y,k1,k2,k3.trans (he a y k4).symm,k4⟩,h2.all⟩,h3⟩
theorem MapF.chg{α β:Type}{ek:α->Acr}{ev:β->Acr}{D:α->Prop}{w w' :Acs}{b:Nat}{G:α->Option β}{B:Nat->Prop}(h:MapF ek ev D w b G)(hc:Chg B w w')(hB:¬B b):MapF ek ev D w' b G:=by
 obtain⟨es,c,h1,h2⟩:=h;exact⟨es,c,(hc.blk b (bl h1) hB).trans h1,h2⟩
theorem Chg.keep{B:Nat->Prop}{w w1 w2:Acs}(h:Chg B w w1)(k:Ext w1 w2):Chg B w w2:=h.trans (B' :=fun _=>False) (Ab8 k) fun _ h=>h.elim
theorem Chg.set{B:Nat->Prop}{w w1 w2:Acs}{g:Nat}(h:Chg B w w1)(k:w1.grownBy w2 (some g))(hg:B g\/w.heap.size<=g):Chg B w w2:=h.trans (B' :=fun i=>i=g) (Zw k fun i e=> .inl (AcY e).symm) fun i e=>e▸hg
abbrev Ab3:=@Chg.set
theorem Aaf{B:Nat->Prop}{w w1 w2:Acs}{v v' :Acr}(h:Chg B w w1)(k:Grew w1 w2 v v')(hv:∀i,v.ownBlock=some i->B i\/w.heap.size<=i):Chg B w w2:=h.trans (B' :=fun i=>v.ownBlock=some i) (Zw k.by_ fun i e=> .inl e) hv
section
variable {base : Nat} {w w' : Acs} {H : Dk} {D : Aj}
theorem DkS.tg(h:DkS base w H D):Cz w H.g=some (82+1):=Bp h.blk
theorem DkS.tF(h:DkS base w H D){k:Nat}(hk:k<D.files.length):Cz w (H.F k)=some (120+1):=Bp (h.files.at_ k hk).blk
theorem DkS.tV(h:DkS base w H D){k:Nat}(hk:k<D.files.length){i:Nat}(hi:(H.V k).ownBlock=some i):Cz w i=some (5+1):=ET (h.files.at_ k hk).row hi
theorem DkS.tA(h:DkS base w H D){i:Nat}(hi:H.va.ownBlock=some i):Cz w i=some (113+1):=by
 obtain⟨vs,hv⟩:=h.acts;exact ET hv.row hi
theorem C7{i:Nat}(h:Cz w i=some 0\/Cz w i=some (82+1)\/Cz w i=some (120+1)\/Cz w i=some (5+1)\/Cz w i=some (113+1)):TyB w i:=by
 unfold Cz at h;cases hb:w.heap[i]? with
 | none=>rw[hb]at h;simp at h
 | some o=>
  rw[hb]at h;cases o with
  | map es c=>exact .inl ⟨es,c,hb⟩
  | cells cs t fr=>
   refine .inr ⟨cs,t,fr,hb,?_⟩;simp only[Option.some.injEq]at h;rcases h with h | h | h | h | h
   ·omega
   ·exact .inl (Nat.succ.inj h)
   ·exact .inr (.inl (Nat.succ.inj h))
   ·exact .inr (.inr (.inl (Nat.succ.inj h)))
   ·exact .inr (.inr (.inr (Nat.succ.inj h)))
  | _=>simp at h
theorem DkS.foot(h:DkS base w H D){i:Nat}(hi:BR H D.files.length i):TyB w i/\i<w.heap.size/\base<=i:=by
 have lt:∀ {j:Nat} {x:Nat},Cz w j=some x->j<w.heap.size:=fun {j x} e=>by
  rcases Nat.lt_or_ge j w.heap.size with q | q
  ·exact q
  ·unfold Cz at e;rw[Array.getElem?_eq_none q]at e;cases e
 rcases hi with rfl | rfl | rfl | hi | ⟨k,hk,rfl | hi⟩
 ·exact⟨C7 (.inr (.inl h.tg)),lt h.tg,h.lo.1⟩
 ·exact⟨C7 (.inl h.now.tag),lt h.now.tag,h.lo.2.1⟩
 ·exact⟨C7 (.inl h.kept.tag),lt h.kept.tag,h.lo.2.2⟩
 ·obtain⟨vs,hv⟩:=h.acts;exact⟨C7 (.inr (.inr (.inr (.inr (h.tA hi))))),lt (h.tA hi),(hv.row.lt i hi).1⟩
 ·exact⟨C7 (.inr (.inr (.inl (h.tF hk)))),lt (h.tF hk),(h.files.at_ k hk).lo⟩
 ·exact⟨C7 (.inr (.inr (.inr (.inl (h.tV hk hi))))),lt (h.tV hk hi),((h.files.at_ k hk).row.lt i hi).1⟩
theorem DkS.keepB{B:Nat->Prop}(h:DkS base w H D)(hc:Chg B w w')(hB:∀i,BR H D.files.length i->¬B i)(hT:∀i,i<w.heap.size->B i->TyB w i):DkS base w' H D:=by
 obtain⟨vs,hv⟩:=h.acts;exact⟨(hc.blk _ (bl h.blk) (hB _ (.inl rfl))).trans h.blk,h.now.chg hc (hB _ (.inr (.inl rfl))),h.kept.chg hc (hB _ (.inr (.inr (.inl rfl)))),h.ne,
  ⟨vs,CY hc hv.row (fun i hi=>hB i (.inr (.inr (.inr (.inl hi))))),hv.len,fun i hi=>(hv.at_ i hi).chg hc hT rfl⟩,
  h.files.chg hc (fun k hk=>⟨hB _ (.inr (.inr (.inr (.inr ⟨k,hk, .inl rfl⟩)))),fun i hi=>hB i (.inr (.inr (.inr (.inr ⟨k,hk, .inr hi⟩))))⟩),h.ok,h.lo⟩
theorem DkS.keep(h:DkS base w H D)(k:Ext w w'):DkS base w' H D:=h.keepB (B:=fun _=>False) (Ab8 k) (fun _ _ q=>q) (fun _ _ q=>q.elim)
theorem DkS.setBlk(h:DkS base w H D)(hg:w.grownBy w' (some H.g)){q rf ar:Nat}{dn:Bool}(hb:w'.heap[H.g]? =some (.cells (IS q H.mn H.ml H.va rf ar dn).toArray 82 (0,0))):DkS base w' H { D with quota:=q,refused:=rf,arm:=ar,down:=dn } :=by
 have hc:Chg (fun i=>i=H.g) w w' :=Zw hg fun i e=> .inl (AcY e).symm;have hT:∀i,i<w.heap.size->i=H.g->TyB w i:=fun i _ e=>e▸C7 (.inr (.inl h.tg));obtain⟨vs,hv⟩:=h.acts;have ne0:∀ {i x:Nat},Cz w i=some x->x≠82+1->i≠H.g:=fun e hx q=>by rw[q,h.tg]at e;exact hx (AcY e).symm
 exact⟨hb,h.now.chg hc (ne0 h.now.tag (by decide)),h.kept.chg hc (ne0 h.kept.tag (by decide)),h.ne,
  ⟨vs,CY hc hv.row (fun i hi=>ne0 (h.tA hi) (by decide)),hv.len,fun i hi=>(hv.at_ i hi).chg hc hT rfl⟩,
  h.files.chg hc (fun k hk=>⟨ne0 (h.tF hk) (by decide),fun i hi=>ne0 (h.tV hk hi) (by decide)⟩),⟨h.ok.now,h.ok.kept,h.ok.acts,h.ok.syn⟩,h.lo⟩
def Bj{α:Type}(F:Nat->α)(n:Nat)(x:α)(k:Nat):α:=if k=n then x else F k
theorem Bx{α:Type}(F:Nat->α){n k:Nat}(x:α)(h:k<n):Bj F n x k=F k:=if_neg (by omega)
theorem BJ{α:Type}(F:Nat->α)(n:Nat)(x:α):Bj F n x n=x:=if_pos rfl
theorem Hl{α:Type}(F:Nat->α){n k:Nat}(x:α)(h:k≠n):Bj F n x k=F k:=if_neg h
theorem DkS.newFile(h:DkS base w H D)(hE:Ext w w'){f:Nat}(hf:w.heap.size<=f)(hb:w'.heap[f]? =some (.cells ([.slice none 0 0,NI 0]).toArray 120 (0,0)))(h0:base<=w.heap.size):
  DkS base w' { H with F:=Bj H.F D.files.length f,V:=Bj H.V D.files.length (.slice none 0 0) } { D with files:=D.files++ [([],0)] } :=by
 have h1:=h.keep hE;obtain⟨vs,hv⟩:=h1.acts;refine⟨h1.blk,h1.now.congr fun a y hy=> ?_,h1.kept.congr fun a y hy=> ?_,h1.ne,⟨vs,hv.row,hv.len,fun i hi=> ?_⟩,⟨fun k hk=> ?_,fun i j hi hj e=> ?_,fun i j hi hj hne x hx=> ?_⟩,h.ok.newFile _ (Acy 0),h1.lo⟩
 ·show PQ (Bj _ _ _ _) 0=_;rw[Bx _ _ (h.ok.now.look hy).1]
 ·show PQ (Bj _ _ _ _) 0=_;rw[Bx _ _ (h.ok.kept.look hy).1]
 ·refine(hv.at_ i hi).chg (B:=fun _=>False) (Acg _ _) (fun _ _ q=>q.elim) (Bx _ _ ?_);exact(h.ok.acts _ (by rw[AcA,AcG hi];exact AdX hi)).num
 ·rw[Acx,Ac2]at hk;by_cases e:k=D.files.length
  ·subst e;show FileAt base w' (Bj _ _ _ _) (Bj _ _ _ _) _;rw[BJ,BJ,AcA,AdD (Acy _),AgC];exact⟨hb,Ad1 _ _ _ 1,by omega⟩
  ·have hk' :k<D.files.length:=by omega
   show FileAt base w' (Bj _ _ _ _) (Bj _ _ _ _) _;rw[Bx _ _ hk',Bx _ _ hk',AcA,AdM hk',<-AcA];exact h1.files.at_ k hk'
 ·rw[Acx,Ac2]at hi hj;have lt:∀k,k<D.files.length->H.F k<w.heap.size:=fun k hk=>(h.foot (.inr (.inr (.inr (.inr ⟨k,hk, .inl rfl⟩))))).2.1;by_cases ei:i=D.files.length <;> by_cases ej:j=D.files.length
  ·omega
  ·exfalso;have e:Bj H.F D.files.length f i=Bj H.F D.files.length f j:=e;rw[ei,BJ,Bx _ _ (by omega:j<D.files.length)]at e;have:=lt j (by omega);omega
  ·exfalso;have e:Bj H.F D.files.length f i=Bj H.F D.files.length f j:=e;rw[ej,BJ,Bx _ _ (by omega:i<D.files.length)]at e;have:=lt i (by omega);omega
  ·have e:Bj H.F D.files.length f i=Bj H.F D.files.length f j:=e;rw[Bx _ _ (by omega:i<D.files.length),Bx _ _ (by omega:j<D.files.length)]at e;exact h.files.inj i j (by omega) (by omega) e
 ·rw[Acx,Ac2]at hi hj;have hx:(Bj H.V D.files.length (.slice none 0 0) i).ownBlock=some x:=hx;show(Bj H.V D.files.length (.slice none 0 0) j).ownBlock≠some x;by_cases ei:i=D.files.length
  ·rw[ei,BJ]at hx;cases hx
  ·by_cases ej:j=D.files.length
   ·rw[ej,BJ];exact fun q=>by cases q
   ·rw[Bx _ _ (by omega:i<D.files.length)]at hx;rw[Bx _ _ (by omega:j<D.files.length)];exact h.files.apart i j (by omega) (by omega) hne x hx
theorem DkS.setFile(h:DkS base w H D){k:Nat}(hk:k<D.files.length){v:Acr}{x:AhU × Nat}(hx:x.2<=x.1.length)(hc:Chg (fun i=>i=H.F k\/(H.V k).ownBlock=some i) w w')(hf:FileAt base w' (H.F k) v x)(hv:∀i,v.ownBlock=some i->(H.V k).ownBlock=some i\/w.heap.size<=i):
    DkS base w' { H with V:=Bj H.V k v } { D with files:=D.files.set k x } :=by
  have hT:∀i,i<w.heap.size->(i=H.F k\/(H.V k).ownBlock=some i)->TyB w i:=fun i _ e=>e.elim (fun e=>e▸C7 (.inr (.inr (.inl (h.tF hk))))) fun e=>C7 (.inr (.inr (.inr (.inl (h.tV hk e)))));obtain⟨vs,hvs⟩:=h.acts;have ne0:∀ {i x:Nat},Cz w i=some x->x≠120+1->x≠5+1->¬(i=H.F k\/(H.V k).ownBlock=some i):=fun e h1 h2 q=>q.elim (fun q=>by rw[q,h.tF hk]at e;exact h1 (AcY e).symm) fun q=>by rw[h.tV hk q]at e;exact h2 (AcY e).symm
  have off:∀j,j<D.files.length->j≠k->¬(H.F j=H.F k\/(H.V k).ownBlock=some (H.F j))/\∀i,(H.V j).ownBlock=some i->¬(i=H.F k\/(H.V k).ownBlock=some i):=fun j hj hne=>
    ⟨fun q=>q.elim (fun q=>hne (h.files.inj j k hj hk q)) fun q=>by have:=h.tV hk q;rw[h.tF hj]at this;exact absurd (AcY this) (by decide),
     fun i hi q=>q.elim (fun q=>by have:=h.tV hj hi;rw[q,h.tF hk]at this;exact absurd (AcY this) (by decide)) fun q=>h.files.apart j k hj hk hne i hi q⟩
  refine⟨(hc.blk _ (bl h.blk) (ne0 h.tg (by decide) (by decide))).trans h.blk,h.now.chg hc (ne0 h.now.tag (by decide) (by decide)),h.kept.chg hc (ne0 h.kept.tag (by decide) (by decide)),h.ne,
    ⟨vs,CY hc hvs.row (fun i hi=>ne0 (h.tA hi) (by decide) (by decide)),hvs.len,fun i hi=>(hvs.at_ i hi).chg hc hT rfl⟩,⟨fun j hj=> ?_,fun i j hi hj e=> ?_,fun i j hi hj hne y hy=> ?_⟩,h.ok.setFile k x hx,h.lo⟩
  · rw[Aez]at hj;by_cases e:j=k
    · subst e;show FileAt base w' (H.F j) (Bj _ _ _ _) _;rw[BJ,AcA,Ag5 hj];exact hf
    · show FileAt base w' (H.F j) (Bj _ _ _ _) _;rw[Hl _ _ e,AcA,Ahi (fun q=>e q.symm),<-AcA];exact(h.files.at_ j hj).keep hc (off j hj e).1 (off j hj e).2
  · rw[Aez]at hi hj;exact h.files.inj i j hi hj e
  · rw[Aez]at hi hj;have hy:(Bj H.V k v i).ownBlock=some y:=hy;show(Bj H.V k v j).ownBlock≠some y;by_cases ei:i=k
    · have ej:j≠k:=fun q=>hne (ei.trans q.symm);rw[ei,BJ]at hy;rw[Hl _ _ ej];intro q;rcases hv y hy with r | r
      · exact h.files.apart j k hj hk ej y q r
      · have:=(h.foot (.inr (.inr (.inr (.inr ⟨j,hj, .inr q⟩))))).2.1;omega
    · rw[Hl _ _ ei]at hy;by_cases ej:j=k
      · rw[ej,BJ];intro q;rcases hv y q with r | r
        · exact h.files.apart i k hi hk ei y hy r
        · have:=(h.foot (.inr (.inr (.inr (.inr ⟨i,hi, .inr hy⟩))))).2.1;omega
      · rw[Hl _ _ ej];exact h.files.apart i j hi hj hne y hy
end
abbrev FF(s:AhU):List Acr:= [St s]
abbrev JJ(v:Acr):List Acr:= [v]
theorem UC(l:List AhU):l.flatMap FF=l.map St:=by
 induction l with
 | nil=>rfl
 | cons a l ih=>rw[Adm,AcL,ih];rfl
theorem enV_flat(l:List Acr):l.flatMap JJ=l:=by
 induction l with
 | nil=>rfl
 | cons a l ih=>rw[Adm,ih];rfl
set_option maxRecDepth 100000
abbrev Mn(n:Int):List Acr:= [.int .i64 n]
def readyL(d:Aj)(l:List AhU):Nat:=if d.down=true then 9 else if l.all Bn=true then 0 else 10
theorem JL{d:Aj}{l:List AhU}(h:d.down=true):readyL d l=9:=if_pos h
theorem Mo{d:Aj}{l:List AhU}(h:d.down=false)(h2:l.all Bn=true):readyL d l=0:=(if_neg (by rw[h];decide)).trans (if_pos h2)
theorem QJ{d:Aj}{l:List AhU}{i:Nat}(h:d.down=false)(hi:i<l.length)(hm:Bn (l.getD i [])=false):readyL d l=10:=by
 refine(if_neg (by rw[h];decide)).trans (if_neg fun ha=> ?_);have:=Ads.1 ha (l.getD i []) (by rw[AcA,AcG hi];exact AdX hi);rw[hm]at this;cases this
theorem UD{l:List AhU}{i:Nat}(hi:i<l.length)(h:(l.take i).all Bn=true)(hm:Bn (l.getD i [])=true):(l.take (i+1)).all Bn=true:=by
 rw[AdR hi,AgQ,h];rw[AcA,AcG hi]at hm
 simpa using hm
theorem UE:Tryz.prog.underlying 25=some (.pointer 82):=by kernel_rfl
theorem QK:AC Acu 82 6 6:=fun b o w=>by simp[go_sem]
theorem Mp:Tryz.prog.underlying 114=some (.slice 9):=by kernel_rfl
theorem UF:∀w' :Acs,(sizeOf 9).run Acu w' = .ok 1 w' :=fun _=>by kernel_rfl
theorem SS:Plain Acu 104:=fun _ _=>by kernel_rfl
set_option maxHeartbeats 1600000
theorem Wv(w:Acs)(s:AhU):
  Calls Acu 104 #[St s] w fun e w' =>e = .returned (.bool (Bn s))/\Ext w w' :=by
 refine FT (args:= [St (s)]) Tryz.func104 rfl 11 rfl rfl ?_;have hE:=AbE w;refine gS (Zz (l:=s) EI rfl (gS (YX (a:=(s.length:Nat)) (b:=(1:Nat)) rfl rfl (Fl _ _ _ _) (gO fun _=>Ae (St (s)) rfl rfl (gT rfl) (fun hG3=>AbL rfl ⟨rfl,rfl⟩) (As (gO fun _=>Ae (NI s.length) rfl rfl (gT rfl) (fun hG4=>Zz (l:=s) EI (Ai rfl hG4) ⟨rfl,rfl⟩) (As (gO fun _=>Ae (.bool (decide ((s.length)<=(80)))) rfl rfl (gT rfl) (fun hG5=>YX (a:=((s.length:Nat):Int)) (b:=((80:Nat):Int)) (Ai rfl hG5) rfl (EA _ .i64 (s.length) (80)) ⟨rfl,rfl⟩) (As (gS (Zf rfl (fun hA=>(Ai rfl hA)) rfl fun bb6 hbb7=>(AD rfl (vr (.bool (bb6)) rfl) ?_))))))))))));subst hbb7;exact⟨rfl,hE⟩
theorem D9(base:Nat)(w:Acs)(H:Dk)(D:Aj)(hS:DkS base w H D)(v:Acr)(l:List AhU)(hr:RG 1 FF w v l)(hl:l.length<4611686018427387904):
  Calls Acu 61 #[PQ H.g 0,v] w fun e w' =>e = .returned (NI (readyL D l))/\Ext w w' :=by
 have hb:=hS.blk;have hgl:=(bl hb);refine gG (args:= [PQ H.g 0,v]) Tryz.func61 rfl 23 rfl rfl ?_;have hE:=AbE w;refine gS (ZC UE rfl (cF rfl (gS (AbF rfl (gS (AbD QK rfl (gS (YW Uc rfl rfl (Ac hb rfl) ?_))))))));refine cB (D.down) rfl (fun c=> ?_) fun c=> ?_
 ·refine AD rfl (vr (NI 9) rfl) ?_;exact⟨by rw[JL (by simpa using c)],hE⟩
 refine gS (Y8 Mp (Y5 hr rfl) (gL (fun(ρ:Ah) (wz:Acs)=>∃i:Nat,ρ 0=(PQ H.g 0:Acr)/\ρ 1=(v:Acr)/\ρ 8=(.bool (false):Acr)/\ρ 13=(v:Acr)/\ρ 14=(NI l.length:Acr)/\ρ 15=(NI i:Acr)/\RG 1 FF wz v l/\wz.heap[H.g]? =some (.cells (IS (D.quota) (H.mn) (H.ml) (H.va) (D.refused) (D.arm) (D.down)).toArray 82 (0,0))/\Ext w wz/\(i<=l.length)/\((l.take i).all Bn=true)/\True) (fun ρ _=>l.length-(intOf (ρ 15)).toNat) ⟨0,rfl,rfl,rfl,rfl,rfl,rfl,hr,hb,hE,AcO _,rfl,trivial⟩ ?_));clear hr hb hE;rintro p s ⟨i,q,T1,r,k,m,f,hr,hb,hE,hi,hn,-⟩;have q15:=f;refine gS (YX (a:=(i:Nat)) (b:=(l.length:Nat)) f m (Bf _ _ _ _) ?_);refine cD rfl (fun n=> ?_) fun n=> ?_
 ·have hlt:i<l.length:=n;have t:(FF (l.getD (i) ([]:AhU))).length=1:=(AbO hr ([]:AhU) (by omega));refine gS (Zd Mp UF (by decide) ([]:AhU) (Y5 hr k) f (by omega) fun u o=>(gS (Zo EI rfl (PR.cell (Zj o rfl) rfl) ?_)));clear o;refine gS (YZ SS rfl ((Wv _ (l.getD (i) ([]:AhU))).mono ?_));rintro e x ⟨rfl,h⟩;refine⟨_,rfl,?_⟩;refine gS (Zh rfl ?_);refine cB (!(Bn (l.getD (i) ([]:AhU)))) rfl (fun j=> ?_) fun j=> ?_
  ·have hm:Bn (l.getD i [])=false:=by simpa using j
   refine AD rfl (vr (NI 10) rfl) ?_;have hE:=hE.trans h;exact⟨by rw[QJ (by simpa using c) hlt hm],hE⟩
  have hm:Bn (l.getD i [])=true:=by simpa using j
  have hr:=hr.keep h;have hb:=eb h hb;have hE:=hE.trans h;refine gS (Y4 (xv:=NI i) (yv:=NI 1) f rfl rfl (AG _ _ _ (by omega)) (gK (And.intro ⟨i+1,q,T1,r,k,m,rfl,hr,hb,hE,by omega,UD hlt hn hm,trivial⟩ ?_)));show l.length-(intOf (NI ((i)+(1)))).toNat<l.length-(intOf (p 15)).toNat;rw[q15];simp only[intOf,AcX];omega
 refine AD rfl (vr (NI 0) rfl) ?_;exact⟨by rw[Mo (by simpa using c) (by rw[Ac7 (by omega)]at hn;exact hn)],hE⟩
theorem ST{n:Nat}{l:Bb}(h:DirOk n l):(l.map Adr).Nodup:=
 Agm _ (fun a b q e=>by rw[e,FD]at q;cases q) h.sort
theorem Ww{n:Nat}{l:Bb}(h:DirOk n l)(a:AhU)(y:Nat):lookD l a=some y↔(a,y)∈l:=⟨EJ,fun q=>Hk h.sort q⟩
theorem UG{α:Type}(f:α->Nat){l:List α}{a:α}{r:List α}(h:l.Perm (a :: r)):(l.map f).sum=f a+(r.map f).sum:=by
 have:=(h.map f).sum_nat;rw[this,AcL,List.sum_cons]
theorem QL:AC Acu 82 1 1:=fun b o w=>by simp[go_sem]
theorem N4:Tryz.prog.underlying 79=some (.map 9 112):=by kernel_rfl
theorem O8:AC Acu 120 0 0:=fun b o w=>by simp[go_sem]
theorem LB(base:Nat)(w:Acs)(H:Dk)(D:Aj)(hS:DkS base w H D)(hU:usedD D<4611686018427387904):
  Calls Acu 62 #[PQ H.g 0] w fun e w' =>e = .returned (NI (usedD D))/\Ext w w' :=by
 have hb:=hS.blk;have hgl:=(bl hb);refine gG (args:= [PQ H.g 0]) Tryz.func62 rfl 23 rfl rfl ?_;have hE:=AbE w;refine gS (AbF rfl (gS (AbD QL rfl (gS (YW N4 rfl rfl (Ac (eb hE hb) rfl) (gS (Abm (fun a c=>DL) N4 rfl (hS.keep hE).now (ST hS.ok.now) (Ww hS.ok.now) fun b r t j k u=> ?_)))))));have hI11:=j;clear j;have hgi:=MIt.lt hI11;have hE:=hE.trans k;refine gL (fun(ρ:Ah) (wz:Acs)=>∃left:List (AhU × Nat),∃s:Nat,ρ 0=(PQ H.g 0:Acr)/\ρ 2=(NI 0:Acr)/\ρ 10=(PQ b 0:Acr)/\ρ 3=(NI s:Acr)/\Ext w wz/\MIt St (pF H.F) wz b H.mn left/\(∀p∈left,p∈D.now)/\(s+(left.map fun e=>(Ap D e.2).1.length).sum=usedD D)/\True) (fun ρ wz=>ZL wz b) ⟨D.now,0,rfl,rfl,rfl,rfl,hE,hI11,fun p hp=>hp,Aec _,trivial⟩ ?_;clear hI11;clear hE;rintro v l ⟨left,s,m,T2,f,T3,hE,hI,hsub,htot,-⟩;by_cases i:left= []
 ·refine gS (AaP f hI i (gS (AbG (vs:= [.bool (false)]) rfl rfl (cF rfl (AD rfl T3 ?_)))));exact⟨by rw[i]at htot;rw[<-htot];rfl,hE⟩
 refine gS (Aa7 f hI i fun a18 y19 rest20 n h hI23 o q x=> ?_);have hm0:=Aaq hI;clear hI;have hI:=hI23;clear hI23;have hgi:=MIt.lt hI;have hmem:(a18,y19)∈D.now:=hsub _ (h.mem_iff.2 AdH);have hyl:=hS.ok.now.num _ hmem;have hfl:=hS.files.at_ y19 hyl;have hsum:(left.map fun e=>(Ap D e.2).1.length).sum=(D.files.getD y19 ([],0)).1.length+(rest20.map fun e=>(Ap D e.2).1.length).sum:=UG _ h;have hfb:=hfl.blk;have hfr:RB w (H.V y19) (D.files.getD y19 ([],0)).1:=Zc hfl.row;have hE:=Ad hE q (Acw (Acy _) (by omega));refine gS (AbG (vs:= [.bool (true),St (a18), .pointer (some ⟨(H.F y19),0,none⟩)]) rfl rfl (cT rfl (gS (Abn f o (gS (AbG (vs:= [St (a18), .pointer (some ⟨(H.F y19),0,none⟩)]) rfl rfl (gS (AbF rfl (gS (AbD O8 rfl (gS (YW G1 rfl rfl (Ac (eb hE hfb) rfl) (gS (Zk G1 (Zn (hfr.keep hE) rfl) (gS (Y4 (xv:=NI s) (yv:=NI (((D.files.getD y19 ([],0)).1:AhU).length)) T3 rfl rfl (AG _ _ _ (by have:=hU;rw[hsum]at htot;omega)) (gK (And.intro ⟨rest20,s+(D.files.getD y19 ([],0)).1.length,m,T2,f,rfl,hE,hI,fun p hp=>hsub p (h.mem_iff.2 (AdF _ hp)),by rw[hsum]at htot;exact(Nat.add_assoc _ _ _).trans htot,trivial⟩ ?_))))))))))))))))));show ZL n b<ZL l b;rw[Aaq hI,hm0,h.length_eq];simp
section
variable {P : AcN} {K : Acr -> Acs -> Prop} {ρ : Ah} {w : Acs} {d : Option Tmp} {ty : Acz} {pos : String} {af : Array Edge} {gd : Option (Nat × Bool)}
theorem K4(w:Acs)(t tx ty e:Acz)(i:TypeInfo)(z:Acr)(size bytes:Nat)(ht:P.underlying t=some (.slice e))(hi:P.info? e=some i)(hz:i.zero=some z) 
  (hsize:i.size=size) (hby:i.bytes=bytes) (hzs:z.cells.size=size) (a:Addr) (n:Nat) (xs:List Acr) (hxs:xs.length=n*size) (hc:∀j u,xs[j]? =some u->w.cell? (a.add j)=some u)
  (x:Acr) (m:Nat) (news:List Acr) (hs:Src P size tx x m news w) (hm:0<m) (h63:n+m<=maxLen) (hbytes:(n+m)*bytes<=140737488355328):
  ∃v' w',(Builtin.append_ #[t,tx] ty #[.slice (some a) n n,x]).run P w = .ok v' w' /\w'.ownsRow w.heap.size e size v' (n+m) (xs++news)/\Ext w w' :=by
 subst hsize;subst hby
 have hsmall:n+m<=9223372036854775807:=by simp only[maxLen]at h63;omega
 have hl:=hs.newsLen;have hlen:(xs++news).length=(n+m)*i.size:=by rw[Acx,hxs,hl,AdN]
 have hge:=grownCap_ge w (n+m) n e;have hcm:grownCap w (n+m) n e<=maxLen:=grownCap_le_maxLen w (n+m) n e h63;have hr:=run_append_grow_src (P:=P) w t tx ty e i z ht hi hz (some a) n n xs (run_firstCells_some w.drew i.size n a n n xs hxs (by simpa using hc)) x m news hs (by omega) (by omega) (growslice_fits (by omega) hbytes);refine⟨_,_,hr,⟨hlen, .inr ⟨w.heap.size,_,_,rfl,Acy _,heap_alloc_new w.drew _,hge,hcm,?_,?_⟩⟩,(Adp _ _).grown ((Acp w (AcI none 0 0)).drew.alloc _).by_ (Acy _) (fun _ e=>by simp[Adc]at e)⟩
 ·simp only[Array.size_append,List.size_toArray,size_zeroCells,hzs,hlen,<-AdN]
  congr 1
  omega
 ·simp only[Array.toList_append];rw[<-hlen];exact List.take_left
def FullG{α:Type}(k:Nat)(enc:α->List Acr)(w:Acs)(v:Acr)(l:List α):Prop:=(v = .slice none 0 0/\l= [])\/∃a,v = .slice (some a) l.length l.length/\RG k enc w v l
theorem FullG.keep{α:Type}{k:Nat}{enc:α->List Acr}{w w' :Acs}{v:Acr}{l:List α}(h:FullG k enc w v l)(hE:Ext w w'):FullG k enc w' v l:=h.imp id fun⟨a,h1,h2⟩=>⟨a,h1,h2.keep hE⟩
theorem FullG.rg{α:Type}{k:Nat}{enc:α->List Acr}{w:Acs}{v:Acr}{l:List α}(h:FullG k enc w v l):RG k enc w v l:=by
 rcases h with ⟨rfl,rfl⟩ | ⟨a,h1,h2⟩
 ·exact RG.nil _ _ _
 ·exact h2
theorem ZU{α:Type}{k:Nat}{enc:α->List Acr}{t tx e e' :Acz}{z:Acr}{bytes:Nat}(ht:P.underlying t=some (.slice e))(hi:(P.info? e).map (fun i=>(i.zero,i.size,i.bytes))=some (some z,k,bytes))(hzs:z.cells.size=k)(hu:P.underlying tx=some (.slice e')) 
  (h1:∀x:α,∀u∈enc x,u.oneCell' =true) {s x:AcD} {v y:Acr} {l m:List α} (hs:Ab ρ s=v) (h:FullG k enc w v l) (hx:Ab ρ x=y) (hy:RG k enc w y m) (hm:0<m.length) (hlen:(l.length+m.length)*bytes<=140737488355328) (hlen2:l.length+m.length<=maxLen)
  (hk:∀v' w',OG w.heap.size e k enc w' v' (l++m)->Ext w w' ->K v' w'):Yk P K ((execOp (Ab ρ) ⟨d, .call ⟨.builtin .append,#[s,x],#[t,tx]⟩,ty,pos,af,gd⟩).run P w):=by
 obtain⟨i,hi0,hi1⟩:=Option.map_eq_some_iff.1 hi;have hz:i.zero=some z:=congrArg Adr hi1;have hsz:i.size=k:=congrArg (fun q=>q.2.1) hi1;have hby:i.bytes=bytes:=congrArg (fun q=>q.2.2) hi1;have hsrc:Src P k tx y m.length (m.flatMap enc) w:=by
  obtain⟨q1,q2,ao,cap,rfl,q3,q4,q5,q6⟩:=hy;cases ao with
  | none=>exact absurd (q5 rfl).1 (by omega)
  | some a=>exact Src.ofSlice w hu a _ cap _ q2 (q6 a rfl) fun u hu=>let ⟨x,_,hx⟩:=List.mem_flatMap.1 hu;h1 x u hx
 have hlen' :∀ {xs:List α},(∀x∈xs,(enc x).length=k)->(xs.flatMap enc).length=xs.length*k:=fun {xs} hxs=>by
  induction xs with
  | nil=>simp
  | cons a r ih=>rw[Adm,Acx,hxs a AdH,ih fun x hx=>hxs x (AdF _ hx),AcK,AdN,Nat.one_mul,Nat.add_comm]
 have hall:∀x∈l++m,(enc x).length=k:=fun x hx=>(Adf.1 hx).elim (h.rg.1 x) (hy.1 x);have fin:∀v' w',(Builtin.append_ #[t,tx] ty #[v,y]).run P w = .ok v' w' ->w'.ownsRow w.heap.size e k v' (l.length+m.length) (l.flatMap enc++m.flatMap enc)->Ext w w' ->Yk P K ((execOp (Ab ρ) ⟨d, .call ⟨.builtin .append,#[s,x],#[t,tx]⟩,ty,pos,af,gd⟩).run P w):=fun v' w' hr ho hE=>by
  refine AbK (v:=v') (w' :=w') ?_ (hk v' w' ⟨hall,by rw[Acx,List.flatMap_append];exact ho⟩ hE);unfold execOp;simp only[resolve,invoke,builtin,AcC,AcE,AcB,AcJ,AcL,AcR,hs,hx,hr]
 rcases h with ⟨rfl,rfl⟩ | ⟨a,hv,hr⟩
 ·obtain⟨v',w',hr,ho,hg⟩:=Fd (P:=P) w w.heap.size t tx ty e i z k bytes ht hi0 hz hsz hby hzs (.slice none 0 0) 0 [] (Ad1 _ _ _ _) y m.length _ hsrc (by simpa using hlen2) (by simpa using hlen) (Acy _);exact fin v' w' hr (by simpa using ho) ((Adp _ _).grown hg.by_ (Acy _) fun _ q=>by simp[Adc]at q)
 ·obtain⟨-,q2,ao,cap,q3,-,-,-,q6⟩:=id hr;rw[hv]at q3;cases q3;obtain⟨v',w',hr',ho,hE⟩:=K4 (P:=P) (ty:=ty) w t tx e i z k bytes ht hi0 hz hsz hby hzs a l.length _ q2 (q6 a rfl) y m.length _ hsrc hm hlen2 hlen;exact fin v' w' (by rw[hv];exact hr') ho hE
end
theorem FO:KL Acu 9 (MapKept.IsKey .string):=Aax (by kernel_rfl)
theorem EF(a:AhU)(_:Nm a):MapKept.IsKey .string (St a):=trivial
theorem HU(u:Acs):(zeroValue 112).run Acu u = .ok (.pointer none) u:=by kernel_rfl
def DE(d:Aj)(ms:List AhU)(s:AhU):Except Nat Nat:=if readyL d (ms++ [s])≠0 then .error (readyL d (ms++ [s]))else match lookD d.now s with | some k=> .ok k | none=> .error 4
def YB(H:Dk):Except Nat Nat->Acr
 | .ok k=>PQ (H.F k) 0
 | .error _=> .pointer none
def YC:Except Nat Nat->Nat
 | .ok _=>0
 | .error e=>e
theorem QM{d:Aj}{ms:List AhU}{s:AhU}(h:readyL d (ms++ [s])=0):Bn s=true:=by
 unfold readyL at h;split at h
 ·cases h
 ·split at h
  ·rename_i h2
   rw[AgQ]at h2;simp only[AcZ,Ahl,List.all_nil,Bool.and_true]at h2;exact h2.2
  ·cases h
theorem IT(z:ByteArray)(w:Acs):(Ac1 114 1 #[(0, .string z)]).run Acu w = .ok (.slice (some ⟨w.heap.size,0,none⟩) 1 1) (w.alloc (.cells #[.string z] 9)):=by kernel_rfl
theorem LC:(Tryz.prog.info? 9).map (fun i=>(i.zero,i.size,i.bytes))=some (some (.string ⟨#[]⟩),1,16):=by kernel_rfl
theorem J7:Plain Acu 61:=fun _ _=>by kernel_rfl
theorem Mq:Tryz.prog.underlying 112=some (.pointer 120):=by kernel_rfl
theorem FG(base:Nat)(w:Acs)(H:Dk)(D:Aj)(hS:DkS base w H D)(s:AhU)(v:Acr)(ms:List AhU)(hF:FullG 1 FF w v ms)(hl:ms.length<=1):
  Calls Acu 73 #[PQ H.g 0,St s,v] w fun e w' =>e = .returned (.tuple #[YB H (DE D ms s),NI (YC (DE D ms s))])/\Ext w w' :=by
 have hb:=hS.blk;have hgl:=(bl hb);refine gG (args:= [PQ H.g 0,St (s),v]) Tryz.func73 rfl 28 rfl rfl ?_;have hE:=AbE w;by_cases c:readyL D (ms++ [s])≠0
 ·have hV:DE D ms s = .error (readyL D (ms++ [s])):=if_pos c;refine gS (ZN (a:=s) (enc:=FF) (vr (St (s)) rfl) rfl (fun w=>IT _ w) fun n w5 o p=> ?_);have hE:=hE.trans p;refine gS (ZU Mp LC rfl Mp (fun y u hu=>by rw[Ada.1 hu];rfl) (vr v rfl) (hF.keep hE) (vr n rfl) o (by simp) (by simp;omega) (by simp[maxLen];omega) fun q w9 r t=> ?_);have ak:=hE.size;have hE:=hE.trans t;refine gS (Y2 J7 rfl rfl ((D9 base _ H D (hS.keep hE) q (ms++ [s]) (YY r) (by simp;omega)).mono ?_));rintro e al ⟨rfl,x⟩;refine⟨_,rfl,?_⟩;refine gS (YX (a:=(readyL D (ms++ [s]):Nat)) (b:=(0:Nat)) rfl rfl (Ba _ _ _ _) (kT (by omega) (cT rfl (DS rfl (vr (.pointer none) rfl) (vr (NI (readyL D (ms++ [s]))) rfl) ?_))));have hE:=hE.trans x;exact⟨by rw[hV];rfl,hE⟩
 have z:readyL D (ms++ [s])=0:=Classical.not_not.1 c;have hm:=QM z;rcases hlk:lookD D.now s with _ | k
 ·have hV:DE D ms s = .error 4:=by unfold DE;rw[if_neg c,hlk]
  refine gS (ZN (a:=s) (enc:=FF) (vr (St (s)) rfl) rfl (fun w=>IT _ w) fun aa am ab f=> ?_);have hE:=hE.trans f;refine gS (ZU Mp LC rfl Mp (fun y u hu=>by rw[Ada.1 hu];rfl) (vr v rfl) (hF.keep hE) (vr aa rfl) ab (by simp) (by simp;omega) (by simp[maxLen];omega) fun ac an ad h=> ?_);have ao:=hE.size;have hE:=hE.trans h;refine gS (Y2 J7 rfl rfl ((D9 base _ H D (hS.keep hE) ac (ms++ [s]) (YY ad) (by simp;omega)).mono ?_));rintro e ap ⟨rfl,i⟩;refine⟨_,rfl,?_⟩;have hb:=eb ((f.trans h).trans i) hb;have hE:=hE.trans i;refine gS (YX (a:=(readyL D (ms++ [s]):Nat)) (b:=(0:Nat)) rfl rfl (Ba _ _ _ _) (kF (by omega) (cF rfl (gS (AbF rfl (gS (AbD QL rfl (gS (YW N4 rfl rfl (Ac hb rfl) (gS (Aap FO EF (fun _ _=>DL) N4 HU rfl rfl (hS.keep hE).now (by have:=BQ hm;exact this.2) hlk (gS (ZC Mq rfl (kB (rfl) (cT rfl (DS rfl (vr (.pointer none) rfl) (vr (NI 4) rfl) ?_))))))))))))))));exact⟨by rw[hV];rfl,hE⟩
 have hV:DE D ms s = .ok k:=by unfold DE;rw[if_neg c,hlk]
 refine gS (ZN (a:=s) (enc:=FF) (vr (St (s)) rfl) rfl (fun w=>IT _ w) fun ae aq af j=> ?_);have hE:=hE.trans j;refine gS (ZU Mp LC rfl Mp (fun y u hu=>by rw[Ada.1 hu];rfl) (vr v rfl) (hF.keep hE) (vr ae rfl) af (by simp) (by simp;omega) (by simp[maxLen];omega) fun ag ar ah l=> ?_);have au:=hE.size;have hE:=hE.trans l;refine gS (Y2 J7 rfl rfl ((D9 base _ H D (hS.keep hE) ag (ms++ [s]) (YY ah) (by simp;omega)).mono ?_));rintro e av ⟨rfl,m⟩;refine⟨_,rfl,?_⟩;have hb:=eb ((j.trans l).trans m) hb;have hE:=hE.trans m;refine gS (YX (a:=(readyL D (ms++ [s]):Nat)) (b:=(0:Nat)) rfl rfl (Ba _ _ _ _) (kF (by omega) (cF rfl (gS (AbF rfl (gS (AbD QL rfl (gS (YW N4 rfl rfl (Ac hb rfl) (gS (ZO FO EF (fun _ _=>DL) N4 HU rfl rfl (hS.keep hE).now (by have:=BQ hm;exact this.2) hlk (gS (ZC Mq rfl (kB (rfl) (cF rfl (DS rfl (vr (.pointer (some ⟨(H.F k),0,none⟩)) rfl) (vr (NI 0) rfl) ?_))))))))))))))));exact⟨by rw[hV];rfl,hE⟩
theorem JM{α β:Type}{ek:α->Acr}{ev:β->Acr}{D:α->Prop}{w w' :Acs}{m:Nat}{G:α->Option β}(h:MapF ek ev D w m G)(hg:w.grownBy w' (some m)){b:Nat}{cs:Array Acr}{t:Acz}{fr:Nat × Nat}(hb:w.heap[b]? =some (.cells cs t fr)):w'.heap[b]? =some (.cells cs t fr):=
 kb hg hb fun e=>by obtain⟨es,c,h1,-⟩:=h;rw[e,h1]at hb;cases hb
theorem Wx{ev:Nat->Acr}(w:Acs)(m:Nat)(G:AhU->Option Nat)(hM:MapF St ev Nm w m (G))(bf bn fk k:Nat)(to:AhU)(h1:w.heap[bf]? =some (.cells ([PQ fk 0]).toArray 112 (0,0)))(h2:w.heap[bn]? =some (.cells ([St to]).toArray 9 (0,0)))(hev:PQ fk 0=ev k)(ht:Nm to):
  Calls Acu 95 #[.map (some m),PQ bf 0,PQ bn 0] w fun e w' =>e = .returned (.tuple #[])/\MapF St ev Nm w' m (updM G to (some k))/\w.grownBy w' (some m):=by
 have a:=Ac0 w (some m);refine gG (args:= [.map (some m),PQ bf 0,PQ bn 0]) Tryz.func95 rfl 7 rfl rfl ?_;have hE:=AbE w;refine gS (YW EI rfl rfl (Ac h2 rfl) (gS (YW Mq rfl rfl (Ac h1 rfl) (gS (Aal (ev:=ev) (c:=k) FO EF N4 (vr (.map (some m)) rfl) (vr (St (to)) rfl) (Eq.trans ((vr (PQ fk 0) rfl)) hev) (hM.keep hE) ht fun w1 hM2 b f=> ?_)))));have h1:w1.heap[bf]? =some (.cells ([PQ fk 0]).toArray 112 (0,0)):=JM hM b h1;have h2:w1.heap[bn]? =some (.cells ([St to]).toArray 9 (0,0)):=JM hM b h2;have a:w.grownBy w1 (some m):=Aa a b (fun _ e=> .inl e);clear hE;have hM:=hM2;clear hM2;refine Gg rfl ?_;exact⟨rfl,hM,a⟩
theorem XI{ev:Nat->Acr}(w:Acs)(m:Nat)(G:AhU->Option Nat)(hM:MapF St ev Nm w m (G))(bs bf bn fk k:Nat)(frm to:AhU)(h3:w.heap[bs]? =some (.cells ([St frm]).toArray 9 (0,0)))(h1:w.heap[bf]? =some (.cells ([PQ fk 0]).toArray 112 (0,0)))(h2:w.heap[bn]? =some (.cells ([St to]).toArray 9 (0,0)))(hev:PQ fk 0=ev k)(hf:Nm frm)(ht:Nm to):
  Calls Acu 127 #[.map (some m),PQ bs 0,PQ bf 0,PQ bn 0] w fun e w' =>e = .returned (.tuple #[])/\MapF St ev Nm w' m (updM (updM G frm none) to (some k))/\w.grownBy w' (some m):=by
 have a:=Ac0 w (some m);refine gG (args:= [.map (some m),PQ bs 0,PQ bf 0,PQ bn 0]) Tryz.func127 rfl 10 rfl rfl ?_;have hE:=AbE w;refine gS (YW EI rfl rfl (Ac h3 rfl) (gS (AaV FO EF (fun _ _=>DL) N4 rfl rfl (hM.keep hE) hf fun w2 hM3 b h=> ?_)));have h3:w2.heap[bs]? =some (.cells ([St frm]).toArray 9 (0,0)):=JM hM b h3;have h1:w2.heap[bf]? =some (.cells ([PQ fk 0]).toArray 112 (0,0)):=JM hM b h1;have h2:w2.heap[bn]? =some (.cells ([St to]).toArray 9 (0,0)):=JM hM b h2;have a:w.grownBy w2 (some m):=Aa a b (fun _ e=> .inl e);clear hE;have hM:=hM3;clear hM3;refine gS (YW EI rfl rfl (Ac h2 rfl) (gS (YW Mq rfl rfl (Ac h1 rfl) (gS (Aal (ev:=ev) (c:=k) FO EF N4 (vr (.map (some m)) rfl) (vr (St (to)) rfl) (Eq.trans ((vr (PQ fk 0) rfl)) hev) hM ht fun f hM7 g i=> ?_)))));have h3:f.heap[bs]? =some (.cells ([St frm]).toArray 9 (0,0)):=JM hM g h3;have h1:f.heap[bf]? =some (.cells ([PQ fk 0]).toArray 112 (0,0)):=JM hM g h1;have h2:f.heap[bn]? =some (.cells ([St to]).toArray 9 (0,0)):=JM hM g h2;have a:w.grownBy f (some m):=Aa a g (fun _ e=> .inl e);clear hM;have hM:=hM7;clear hM7;refine Gg rfl ?_;exact⟨rfl,hM,a⟩
theorem Wy{ev:Nat->Acr}(w:Acs)(m:Nat)(G:AhU->Option Nat)(hM:MapF St ev Nm w m (G))(bs:Nat)(frm:AhU)(h3:w.heap[bs]? =some (.cells ([St frm]).toArray 9 (0,0)))(hf:Nm frm):
  Calls Acu 120 #[.map (some m),PQ bs 0] w fun e w' =>e = .returned (.tuple #[])/\MapF St ev Nm w' m (updM G frm none)/\w.grownBy w' (some m):=by
 have a:=Ac0 w (some m);refine gG (args:= [.map (some m),PQ bs 0]) Tryz.func120 rfl 5 rfl rfl ?_;have hE:=AbE w;refine gS (YW EI rfl rfl (Ac h3 rfl) (gS (AaV FO EF (fun _ _=>DL) N4 rfl rfl (hM.keep hE) hf fun w1 hM2 b c=> ?_)));have h3:w1.heap[bs]? =some (.cells ([St frm]).toArray 9 (0,0)):=JM hM b h3;have a:w.grownBy w1 (some m):=Aa a b (fun _ e=> .inl e);clear hE;have hM:=hM2;clear hM2;refine Gg rfl ?_;exact⟨rfl,hM,a⟩
theorem N5{n:Nat}{l:Bb}(h:DirOk n l)(a:BP)(hn:a.to.length≠0):updM (updM (lookD l) a.frm none) a.to (some a.file)=lookD (turnD l a):=by
 funext t
 rw[look_turn,if_neg hn];unfold updM;rfl
theorem SU{n:Nat}{l:Bb}(h:DirOk n l)(a:BP)(hn:a.to.length≠0)(hf:a.frm= []):updM (lookD l) a.to (some a.file)=lookD (turnD l a):=by
 rw[<-N5 h a hn]
 funext t
 unfold updM;by_cases ht:t=a.to
 ·rw[if_pos ht,if_pos ht]
 ·rw[if_neg ht,if_neg ht];by_cases h2:t=a.frm
  ·rw[if_pos h2,h2,hf,h.noEmpty]
  ·rw[if_neg h2]
theorem SV{l:Bb}(a:BP)(hn:a.to= []):updM (lookD l) a.frm none=lookD (turnD l a):=by
 funext t
 rw[look_turn,if_pos (by rw[hn];rfl)];unfold updM;rfl
theorem N6{w:Acs}{F:Nat->Nat}{v:Acr}{a:BP}(h:ActAt w F v a){m n:Nat}{l:Bb}(hM:MapF St (pF F) Nm w m (lookD l))(hl:DirOk n l)(ha:ActOk n a):
  ∃f caps,v = .func (.func f) #[] caps/\Plain Acu f/\Calls Acu f (#[.map (some m)]++caps) w fun e w' =>e = .returned (.tuple #[])/\MapF St (pF F) Nm w' m (lookD (turnD l a))/\w.grownBy w' (some m):=by
 rcases h with ⟨bf,bn,e,h1,h2,h3,h4⟩ | ⟨hm,bs,bf,bn,e,h1,h2,h3,h4⟩ | ⟨bn,e,h1,h2⟩
 ·refine⟨_,_,e,fun _ _=>by kernel_rfl,?_⟩;have:=Wx (ev:=pF F) w m _ hM bf bn (F a.file) a.file a.to h1 h2 rfl (BQ (ha.may h4)).2;rw[SU hl a h4 h3]at this;exact this
 ·refine⟨_,_,e,fun _ _=>by kernel_rfl,?_⟩;have:=XI (ev:=pF F) w m _ hM bs bf bn (F a.file) a.file a.frm a.to h1 h2 h3 rfl ha.frm (BQ (ha.may h4)).2;rw[N5 hl a h4]at this;exact this
 ·refine⟨_,_,e,fun _ _=>by kernel_rfl,?_⟩;have:=Wy (ev:=pF F) w m _ hM bn a.frm h1 ha.frm;rw[SV a h2]at this;exact this
theorem getD_left{α:Type}{l r:List α}{i:Nat}{x:α}(h:i<l.length):(l++r).getD i x=l.getD i x:=by rw[AcA,AdM h,<-AcA]
theorem FH{α:Type}{l:List α}{a x:α}:(l++ [a]).getD l.length x=a:=by rw[AcA,AdD (Acy _),AgC];rfl
section
variable {base : Nat} {w w' : Acs} {H : Dk} {D : Aj}
theorem BC{w:Acs}{i j x y:Nat}(h:Cz w i=some x)(k:Cz w j=some y)(hx:x≠y):i≠j:=fun e=>by rw[e,k]at h;exact hx (AcY h).symm
theorem DkS.turned(h:DkS base w H D){a:BP}(ha:ActOk D.files.length a){v:Acr}(hat:ActAt w H.F v a){vs:List Acr}(hvs:N3 base w H.va H.F D.acts vs){va' :Acr} 
  (hc:Chg (fun i=>i=H.mn\/i=H.g\/H.va.ownBlock=some i) w w') (hm:MapF St (pF H.F) Nm w' H.mn (lookD (turnD D.now a)))
  (hb:w'.heap[H.g]? =some (.cells (IS D.quota H.mn H.ml va' D.refused D.arm D.down).toArray 82 (0,0))) (hr:w'.ownsRow base 113 1 va' (vs++ [v]).length (vs++ [v])):
  DkS base w' { H with va:=va' } (turnedD D a):=by
 have hT:∀i,i<w.heap.size->(i=H.mn\/i=H.g\/H.va.ownBlock=some i)->TyB w i:=fun i _ e=>by
  rcases e with e | e | e
  ·exact e▸C7 (.inl h.now.tag)
  ·exact e▸C7 (.inr (.inl h.tg))
  ·exact C7 (.inr (.inr (.inr (.inr (h.tA e)))))
 have ne0:∀ {i x:Nat},Cz w i=some x->x≠0->x≠82+1->x≠113+1->¬(i=H.mn\/i=H.g\/H.va.ownBlock=some i):=fun e h0 h1 h2 q=>by
  rcases q with q | q | q
  ·rw[q,h.now.tag]at e;exact h0 (AcY e).symm
  ·rw[q,h.tg]at e;exact h1 (AcY e).symm
  ·rw[h.tA q]at e;exact h2 (AcY e).symm
 refine⟨hb,hm,h.kept.chg hc fun q=> ?_,h.ne,⟨vs++ [v],hr,?_,fun i hi=> ?_⟩,h.files.chg hc (fun k hk=>⟨ne0 (h.tF hk) (by decide) (by decide) (by decide),fun i hi=>ne0 (h.tV hk hi) (by decide) (by decide) (by decide)⟩),h.ok.turned ha,h.lo⟩
 ·rcases q with q | q | q
  ·exact h.ne q.symm
  ·exact BC h.kept.tag h.tg (by decide) q
  ·exact BC h.kept.tag (h.tA q) (by decide) rfl
 ·show(vs++ [v]).length=(D.acts++ [a]).length;rw[Acx,Acx,hvs.len];rfl
 ·show ActAt w' H.F ((vs++ [v]).getD i undef) ((D.acts++ [a]).getD i _);rw[show(turnedD D a).acts.length=D.acts.length+1 by show(D.acts++ [a]).length=_;simp]at hi;have hl:=hvs.len;by_cases e:i<D.acts.length
  ·rw[getD_left (by omega:i<vs.length),getD_left e];exact(hvs.at_ i e).chg hc hT rfl
  ·obtain rfl:i=D.acts.length:=by omega
   rw[FH,<-hl,FH];exact hat.chg hc hT rfl
theorem DkS.synced(h:DkS base w H D){ml' :Nat}(hc:Chg (fun i=>i=H.g) w w')(hn:w.heap.size<=ml')(hm:MapF St (pF H.F) Nm w' ml' (lookD D.now))(h0:base<=w.heap.size) 
  (hb:w'.heap[H.g]? =some (.cells (IS D.quota H.mn ml' (.slice none 0 0) D.refused D.arm D.down).toArray 82 (0,0))):
  DkS base w' { H with ml:=ml',va:= .slice none 0 0 } { D with kept:=D.now,acts:= [] } :=by
 have ne0:∀ {i x:Nat},Cz w i=some x->x≠82+1->i≠H.g:=fun e hx=>BC e h.tg hx;have hlt:=h.now.lt;exact⟨hb,h.now.chg hc (ne0 h.now.tag (by decide)),hm,fun(q:H.mn=ml')=>by omega,⟨[],Ad1 _ _ _ 1,rfl,fun i hi=>absurd hi (AdB _)⟩,
  h.files.chg hc (fun k hk=>⟨ne0 (h.tF hk) (by decide),fun i hi=>ne0 (h.tV hk hi) (by decide)⟩),⟨h.ok.now,h.ok.now,fun a ha=>(by cases ha),h.ok.syn⟩,⟨h.lo.1,h.lo.2.1,Acw h0 hn⟩⟩
structure DkT (base : Nat) (w : Acs) (H : Dk) (D : Aj) (w' : Acs) (H' : Dk) (D' : Aj) : Prop where
 st:DkS base w' H' D'
 g:H'.g=H.g
 chg:Chg (BR H D.files.length) w w'
 foot:∀i,BR H' D'.files.length i->BR H D.files.length i\/w.heap.size<=i
theorem DkT.refl(h:DkS base w H D):DkT base w H D w H D:=⟨h,rfl,Acg _ _,fun _ q=> .inl q⟩
theorem DkT.trans{w2:Acs}{H1 H2:Dk}{D1 D2:Aj}(h:DkT base w H D w' H1 D1)(k:DkT base w' H1 D1 w2 H2 D2):DkT base w H D w2 H2 D2:=
 ⟨k.st,k.g.trans h.g,h.chg.trans k.chg h.foot,fun i q=>(k.foot i q).elim (h.foot i) fun r=> .inr (Acw h.chg.size r)⟩
theorem DkT.keep{w2:Acs}{H1:Dk}{D1:Aj}(h:DkT base w H D w' H1 D1)(k:Ext w' w2):DkT base w H D w2 H1 D1:=⟨h.st.keep k,h.g,h.chg.keep k,h.foot⟩
theorem RB.chg{B:Nat->Prop}{v:Acr}{l:AhU}(h:RB w v l)(hc:Chg B w w')(hB:l= []\/∀i,v.ownBlock=some i->¬B i):RB w' v l:=by
 obtain⟨h1,ao,cap,rfl,h2,h3,h4,h5⟩:=h;refine⟨h1,ao,cap,rfl,h2,h3,h4,fun a ha j u hu=> ?_⟩;have hl:=h5 a ha j u hu;have hlt:=AdE w _ hl;rcases hB with rfl | hB
 ·simp[Lib.byteCells]at hu
 ·have hn:¬B (a.add j).block:=hB _ (by rw[ha];obtain⟨a1,a2,a3⟩:=a;simp only[Adc,Addr.add];split <;> rfl);have hb:=hc.blk _ hlt hn;unfold World.cell? at hl ⊢;rw[hb];exact hl
theorem DkS.offT(h:DkS base w H D){b:Nat}{cs:Array Acr}{t:Acz}{fr:Nat × Nat}(hb:w.heap[b]? =some (.cells cs t fr))(h1:t≠82)(h2:t≠120)(h3:t≠5)(h4:t≠113):¬BR H D.files.length b:=fun q=>TyB.off hb h1 h2 h3 h4 (h.foot q).1
theorem DkT.box{H1:Dk}{D1:Aj}(h:DkT base w H D w' H1 D1)(h0:DkS base w H D){b:Nat}{cs:Array Acr}{t:Acz}{fr:Nat × Nat}(hb:w.heap[b]? =some (.cells cs t fr))(h1:t≠82)(h2:t≠120)(h3:t≠5)(h4:t≠113):w'.heap[b]? =some (.cells cs t fr):=
 (h.chg.blk b (bl hb) (h0.offT hb h1 h2 h3 h4)).trans hb
abbrev AbY:=@DkT.box
theorem DkS.setFileT(h:DkS base w H D){k:Nat}(hk:k<D.files.length){v:Acr}{x:AhU × Nat}(hx:x.2<=x.1.length)(hc:Chg (fun i=>i=H.F k\/(H.V k).ownBlock=some i) w w')(hf:FileAt base w' (H.F k) v x)(hv:∀i,v.ownBlock=some i->(H.V k).ownBlock=some i\/w.heap.size<=i):
  DkT base w H D w' { H with V:=Bj H.V k v } { D with files:=D.files.set k x } :=
 ⟨h.setFile hk hx hc hf hv,rfl,hc.mono fun i _ e=> .inr (.inr (.inr (.inr ⟨k,hk,e⟩))),fun i hi=>by
  rcases hi with e | e | e | e | ⟨j,hj,e⟩
  ·exact .inl (.inl e)
  ·exact .inl (.inr (.inl e))
  ·exact .inl (.inr (.inr (.inl e)))
  ·exact .inl (.inr (.inr (.inr (.inl e))))
  ·have hj:j<D.files.length:=by have:j<(D.files.set k x).length:=hj;rwa [Aez]at this
   rcases e with e | e
   ·exact .inl (.inr (.inr (.inr (.inr ⟨j,hj, .inl e⟩))))
   ·by_cases ej:j=k
    ·have e:(Bj H.V k v j).ownBlock=some i:=e;rw[ej,BJ]at e;exact(hv i e).imp (fun q=> .inr (.inr (.inr (.inr ⟨k,hk, .inr q⟩)))) id
    ·have e:(Bj H.V k v j).ownBlock=some i:=e;rw[Hl _ _ ej]at e;exact .inl (.inr (.inr (.inr (.inr ⟨j,hj, .inr e⟩))))⟩
theorem DkS.newFileT(h:DkS base w H D)(hE:Ext w w'){f:Nat}(hf:w.heap.size<=f)(hb:w'.heap[f]? =some (.cells ([.slice none 0 0,NI 0]).toArray 120 (0,0)))(h0:base<=w.heap.size):
  DkT base w H D w' { H with F:=Bj H.F D.files.length f,V:=Bj H.V D.files.length (.slice none 0 0) } { D with files:=D.files++ [([],0)] } :=
 ⟨h.newFile hE hf hb h0,rfl,Ab8 hE,fun i hi=>by
  rcases hi with e | e | e | e | ⟨j,hj,e⟩
  ·exact .inl (.inl e)
  ·exact .inl (.inr (.inl e))
  ·exact .inl (.inr (.inr (.inl e)))
  ·exact .inl (.inr (.inr (.inr (.inl e))))
  ·have hj:j<D.files.length+1:=by have:j<(D.files++ [(([]:AhU),0)]).length:=hj;rwa [Acx]at this
   by_cases ej:j=D.files.length
   ·rcases e with e | e
    ·have e:i=Bj H.F D.files.length f j:=e;rw[ej,BJ]at e;exact .inr (e▸hf)
    ·have e:(Bj H.V D.files.length (.slice none 0 0) j).ownBlock=some i:=e;rw[ej,BJ]at e;cases e
   ·have hj' :j<D.files.length:=by omega
    rcases e with e | e
    ·have e:i=Bj H.F D.files.length f j:=e;rw[Bx _ _ hj']at e;exact .inl (.inr (.inr (.inr (.inr ⟨j,hj', .inl e⟩))))
    ·have e:(Bj H.V D.files.length (.slice none 0 0) j).ownBlock=some i:=e;rw[Bx _ _ hj']at e;exact .inl (.inr (.inr (.inr (.inr ⟨j,hj', .inr e⟩))))⟩
theorem DkS.setBlkT(h:DkS base w H D)(hg:w.grownBy w' (some H.g)){q rf ar:Nat}{dn:Bool}(hb:w'.heap[H.g]? =some (.cells (IS q H.mn H.ml H.va rf ar dn).toArray 82 (0,0))):DkT base w H D w' H { D with quota:=q,refused:=rf,arm:=ar,down:=dn } :=
 ⟨h.setBlk hg hb,rfl,Zw hg fun i e=> .inl (.inl (AcY e).symm),fun i hi=> .inl hi⟩
theorem DkS.syncedT(h:DkS base w H D){ml' :Nat}(hc:Chg (fun i=>i=H.g) w w')(hn:w.heap.size<=ml')(hm:MapF St (pF H.F) Nm w' ml' (lookD D.now))(h0:base<=w.heap.size) 
  (hb:w'.heap[H.g]? =some (.cells (IS D.quota H.mn ml' (.slice none 0 0) D.refused D.arm D.down).toArray 82 (0,0))):
  DkT base w H D w' { H with ml:=ml',va:= .slice none 0 0 } { D with kept:=D.now,acts:= [] } :=
 ⟨h.synced hc hn hm h0 hb,rfl,hc.mono fun i _ e=> .inl e,fun i hi=>by
  rcases hi with e | e | e | e | e
  ·exact .inl (.inl e)
  ·exact .inl (.inr (.inl e))
  ·exact .inr ((show i=ml' from e)▸hn)
  ·cases(show(none:Option Nat)=some i from e)
  ·exact .inl (.inr (.inr (.inr (.inr e))))⟩
end
theorem AaW{P:AcN}{K:Acr->Acs->Prop}{ρ:Ah}{w:Acs}{d:Option Tmp}{ty:Acz}{pos:String}{af:Array Edge}{gd:Option (Nat × Bool)}{f:FuncId}{c x:AcD}{v y:Acr}{caps:Array Acr}{R:Acs->Prop}{at_:Array Acz}(hp:Plain P f)(hc:Ab ρ c=v)(hve:v = .func (.func f) #[] caps)(hx:Ab ρ x=y) 
  (h:Calls P f (#[y]++caps) w fun e w' =>e = .returned (.tuple #[])/\R w') (hk:∀w',R w' ->K (.tuple #[]) w'):Yk P K ((execOp (Ab ρ) ⟨d, .call ⟨.value c,#[x],at_⟩,ty,pos,af,gd⟩).run P w):=
 Zq hp (hc.trans hve) _ (by simp[hx]) (h.mono fun e w' q=>⟨_,q.1,hk w' q.2⟩)
theorem Ym{base:Nat}{w w' :Acs}{H:Dk}{D:Aj}(h:DkS base w H D)(hg:w.grownBy w' (some H.mn)){vs:List Acr}(hr:OG base 113 1 JJ w H.va vs):OG base 113 1 JJ w' H.va vs:=
 hr.kept hg fun q=>BC h.now.tag (h.tA q) (by decide) rfl
theorem O9{base:Nat}{w w' :Acs}{H:Dk}{D:Aj}(h:DkS base w H D){a:BP}(ha:ActOk D.files.length a){v:Acr}(hat:ActAt w H.F v a){vs:List Acr}(hvs:N3 base w H.va H.F D.acts vs){va' :Acr} 
  (hc:Chg (fun i=>i=H.mn\/i=H.g\/H.va.ownBlock=some i) w w') (hm:MapF St (pF H.F) Nm w' H.mn (lookD (turnD D.now a)))
  (hb:w'.heap[H.g]? =some (.cells (IS D.quota H.mn H.ml va' D.refused D.arm D.down).toArray 82 (0,0))) (hr:w'.ownsRow base 113 1 va' (vs++ [v]).length (vs++ [v]))
  (hv:∀i,va'.ownBlock=some i->H.va.ownBlock=some i\/w.heap.size<=i):DkT base w H D w' { H with va:=va' } (turnedD D a):=
 ⟨h.turned ha hat hvs hc hm hb hr,rfl,hc.mono fun i _ e=>e.elim (fun e=> .inr (.inl e)) fun e=>e.elim .inl fun e=> .inr (.inr (.inr (.inl e))),fun i hi=>by
  rcases hi with e | e | e | e | e
  ·exact .inl (.inl e)
  ·exact .inl (.inr (.inl e))
  ·exact .inl (.inr (.inr (.inl e)))
  ·exact(hv i e).imp (fun e=> .inr (.inr (.inr (.inl e)))) id
  ·exact .inl (.inr (.inr (.inr (.inr e))))⟩
theorem K5:AC Acu 82 3 3:=fun b o w=>by simp[go_sem]
theorem J8:Tryz.prog.underlying 80=some (.slice 113):=by kernel_rfl
theorem UH(f:Fn)(a:Array Acr)(c:Array Acr)(w:Acs):(Ac1 80 1 #[(0, .func f a c)]).run Acu w = .ok (.slice (some ⟨w.heap.size,0,none⟩) 1 1) (w.alloc (.cells #[.func f a c] 113)):=by kernel_rfl
theorem dw5_ig113:∃z,(Tryz.prog.info? 113).map (fun i=>(i.zero,i.size,i.bytes))=some (some z,1,8)/\z.cells.size=1:=Hf (by kernel_rfl)
theorem SW:(Tryz.prog.info? 80).map (·.size)=some 1:=by kernel_rfl
theorem LD(w0 w:Acs)(b:Ext w0 w)(H:Dk)(D:Aj)(hS:DkS w0.heap.size w H D)(v:Acr)(a:BP)(ha:ActOk D.files.length a)(hat:ActAt w H.F v a)(hn:D.acts.length<1099511627776):
  Calls Acu 94 #[PQ H.g 0,v] w fun e w' =>∃va',e = .returned (.tuple #[])/\DkT w0.heap.size w H D w' { H with va:=va' } (turnedD D a):=by
 have hb:=hS.blk;have hgl:=(bl hb);have hsz0:=b.size;have hmnl:=hS.lo.2.1;have hgl0:=hS.lo.1;have h:=hS;obtain⟨vs,hvs⟩:=hS.acts;have hvl:=hvs.len;have hrow:OG w0.heap.size 113 1 JJ w H.va vs:=⟨fun _ _=>rfl,by rw[enV_flat];exact hvs.row⟩;have hvg:H.va.ownBlock≠some H.g:=fun q=>BC hS.tg (hS.tA q) (by decide) rfl;obtain⟨f,caps,hve,hpl,hcl⟩:=N6 hat hS.now hS.ok.now ha;refine gG (args:= [PQ H.g 0,v]) Tryz.func94 rfl 20 rfl rfl ?_;have hE:=AbE w;refine gS (AbF rfl (gS (AbD QL rfl (gS (YW N4 rfl rfl (Ac hb rfl) (gS (AaW hpl rfl hve rfl hcl fun w2 hR3=> ?_)))))));have hb:w2.heap[H.g]? =some (.cells (IS (D.quota) (H.mn) (H.ml) (H.va) (D.refused) (D.arm) (D.down)).toArray 82 (0,0)):=JM hS.now hR3.2 hb;have hrow:OG w0.heap.size 113 1 (JJ) w2 H.va vs:=Ym hS hR3.2 hrow;have b:=Ad b hR3.2 (Acw (Acy _) (by omega));clear hE;have hC:Chg (fun i=>i=H.g\/H.va.ownBlock=some i) w2 w2:=Acg _ _;refine gS (AbF rfl (gS (AbD K5 rfl (gS (YW J8 rfl rfl (Ac hb rfl) (gS (ZN (a:=(v)) (enc:=JJ) (vr v rfl) rfl (fun w=>by rw[hve];exact UH _ _ _ w) fun t n o k=> ?_)))))));have hC:Chg (fun i=>i=H.g\/H.va.ownBlock=some i) w2 n:=(hC.keep k);have hrow:=hrow.keep k;have b:=b.trans k;refine gS (Zr _ _ w0.heap.size _ 8 J8 dw5_ig113.choose_spec.1 dw5_ig113.choose_spec.2 J8 (vs) ([(v)]) (ZP hrow (vr H.va rfl)) (Y5 o (vr t rfl)) (fun y hy u hu=>by rw[Ada.1 hu,Ada.1 hy,hve];rfl) (by simp;omega) (by simp;omega) b.size fun l p j c=> ?_);have c:Grew n p H.va l:=c;have hb:=eb k hb;have x:OB l H.g:=Ca c hvg (bl hb);have hb:=AV hb c hvg;have b:=Br b c hrow.2 (Acy _);have hvf:=fun i e=>(c.fresh i e).imp id (fun q=>Acw (Acw hR3.2.size hC.size) q);have hC:Chg (fun i=>i=H.g\/H.va.ownBlock=some i) w2 p:=Aaf hC c (fun i e=> .inl (.inr e));clear o;clear hrow;refine gS (AbF rfl (gS (AbD K5 rfl (gS (Y1 (i:=3) (v:=l) rfl rfl hb (AcF rfl) SW (CE j.2).1 (CE j.2).2 fun m r s z=> ?_)))));clear b;have hC:Chg (fun i=>i=H.g\/H.va.ownBlock=some i) w2 m:=Ab3 hC s (.inl (.inl rfl));clear hb;have hb:=r;clear r;have aa:=bl hb;refine Gg rfl ?_;have hC0:Chg (fun i=>i=H.mn\/i=H.g\/H.va.ownBlock=some i) w m:=((Zw hR3.2 (fun i e=> .inl (.inl (AcY e).symm)):Chg (fun i=>i=H.mn\/i=H.g\/H.va.ownBlock=some i) w w2)).trans hC (fun i e=> .inl (.inr e));have hmf:=hR3.1.chg hC (fun q=>q.elim (fun q=>BC h.now.tag h.tg (by decide) q) (fun q=>BC h.now.tag (h.tA q) (by decide) rfl));have j:=AbH j s x;have hown:m.ownsRow w0.heap.size 113 1 l (vs++ [v]).length (vs++ [v]):=by have:=j.2;rw[enV_flat]at this;exact this
 exact⟨_,rfl,O9 h ha hat hvs hC0 hmf hb hown hvf⟩
open Go.Shelf Go.RowKit
def QN:Go.Shelf.Ren:=⟨fun | 5=>51 | 7=>98 | n=>n,fun | 23=>79 | 25=>9 | 3=>112 | 4=>4 | 20=>20 | n=>n,fun | n=>n⟩
theorem XJ:Go.Proofs.SlLaysW.n5 Acu QN:= {
  mixed:=by kernel_rfl
  f5:=⟨Tryz.f51.name,by decide,Tryz.func51.trans (congrArg some (by kernel_rfl))⟩
  f7:=Tryz.func98.trans (congrArg some (by kernel_rfl))
  t4:=AfK
  a4:=AhS
  z4:=AhH
  v4:=AgU
  t20:=Tryz.underlying20
  a20:=Tryz.isAgg20
  z20:=Tryz.sizeOf20
  v20:=Tryz.zeroValue20
  t23:=Tryz.underlying79
  a23:=Tryz.isAgg79
  z23:=Tryz.sizeOf79
  v23:=Tryz.zeroValue79 }
def Mr:Go.Shelf.Ren:=⟨fun | 7=>53 | 10=>101 | n=>n,fun | 23=>79 | 26=>9 | 3=>112 | 28=>117 | 0=>0 | 27=>116 | 33=>91 | 4=>4 | n=>n,fun | n=>n⟩
theorem V4:Go.Proofs.SlLaysZ.n7 Acu Mr:= {
  mixed:=by kernel_rfl
  f7:=⟨Tryz.f53.name,by decide,Tryz.func53.trans (congrArg some (by kernel_rfl))⟩
  f10:=⟨Tryz.f101.name,by decide,Tryz.func101.trans (congrArg some (by kernel_rfl))⟩
  t0:=AgE
  a0:=AhT
  z0:=AhI
  v0:=AgV
  t4:=AfK
  a4:=AhS
  z4:=AhH
  v4:=AgU
  t23:=Tryz.underlying79
  a23:=Tryz.isAgg79
  z23:=Tryz.sizeOf79
  v23:=Tryz.zeroValue79
  t26:=AfL
  a26:=Ag6
  z26:=AgF
  v26:=AfV
  t27:=Tryz.underlying116
  a27:=Tryz.isAgg116
  z27:=Tryz.sizeOf116
  v27:=Tryz.zeroValue116
  t28:=Tryz.underlying117
  a28:=Tryz.isAgg117
  z28:=Tryz.sizeOf117
  v28:=Tryz.zeroValue117
  t33:=Tryz.underlying91
  a33:=Tryz.isAgg91
  z33:=Tryz.sizeOf91
  v33:=Tryz.zeroValue91 }
def JN:Go.Shelf.Ren:=⟨fun | 6=>52 | 8=>99 | 9=>100 | 11=>132 | 13=>134 | 12=>133 | 23=>166 | 24=>167 | 14=>157 | 15=>158 | 16=>159 | 17=>160 | 18=>161 | 19=>162 | 20=>163 | 21=>164 | 22=>165 | 25=>197 | 26=>198 | 27=>199 | 28=>200 | 29=>201 | 30=>202 | 31=>214 | n=>n,fun | 26=>9 | 28=>117 | 24=>114 | 0=>0 | 3=>3 | 37=>198 | 48=>234 | 50=>163 | 4=>4 | 40=>227 | 39=>226 | 45=>221 | 5=>5 | 9=>9 | 51=>261 | 55=>265 | 57=>279 | 58=>280 | 33=>91 | n=>n,fun | n=>n⟩
theorem Wz:Go.Proofs.SlLaysZ.n6 Acu JN:= {
  mixed:=by kernel_rfl
  f6:=⟨Tryz.f52.name,by decide,Tryz.func52.trans (congrArg some (by kernel_rfl))⟩
  f8:=⟨Tryz.f99.name,by decide,Tryz.func99.trans (congrArg some (by kernel_rfl))⟩
  f11:=⟨Tryz.f132.name,by decide,Tryz.func132.trans (congrArg some (by kernel_rfl))⟩
  t0:=AgE
  a0:=AhT
  z0:=AhI
  v0:=AgV
  t24:=Agb
  a24:=Ahn
  z24:=Ahc
  v24:=Agn
  t26:=AfL
  a26:=Ag6
  z26:=AgF
  v26:=AfV
  t28:=Tryz.underlying117
  a28:=Tryz.isAgg117
  z28:=Tryz.sizeOf117
  v28:=Tryz.zeroValue117
  i26:=by kernel_rfl }
def SX:Go.Shelf.Ren:=⟨fun | 6=>100 | 8=>134 | 9=>133 | 19=>166 | 20=>167 | 21=>157 | 22=>158 | 23=>159 | 24=>160 | 25=>161 | 26=>162 | 27=>163 | 28=>164 | 29=>165 | 36=>197 | 31=>198 | 32=>199 | 37=>200 | 38=>201 | 39=>202 | 41=>214 | n=>n,fun | 27=>114 | 29=>9 | 3=>3 | 32=>198 | 26=>114 | 0=>0 | 44=>234 | 46=>163 | 4=>4 | 36=>227 | 35=>226 | 41=>221 | 5=>5 | 9=>9 | 53=>261 | 57=>265 | 63=>279 | 64=>280 | n=>n,fun | n=>n⟩
theorem V5:Go.Proofs.SlLaysM.n6 Acu SX:= {
  mixed:=by kernel_rfl
  f6:=⟨Tryz.f100.name,by decide,Tryz.func100.trans (congrArg some (by kernel_rfl))⟩
  f8:=Tryz.func134.trans (congrArg some (by kernel_rfl))
  f9:=⟨Tryz.f133.name,by decide,Tryz.func133.trans (congrArg some (by kernel_rfl))⟩
  f19:=Tryz.func166.trans (congrArg some (by kernel_rfl))
  f20:=Tryz.func167.trans (congrArg some (by kernel_rfl))
  f21:=⟨Tryz.f157.name,by decide,Tryz.func157.trans (congrArg some (by kernel_rfl))⟩
  f22:=⟨Tryz.f158.name,by decide,Tryz.func158.trans (congrArg some (by kernel_rfl))⟩
  f23:=⟨Tryz.f159.name,by decide,Tryz.func159.trans (congrArg some (by kernel_rfl))⟩
  f24:=⟨Tryz.f160.name,by decide,Tryz.func160.trans (congrArg some (by kernel_rfl))⟩
  f25:=⟨Tryz.f161.name,by decide,Tryz.func161.trans (congrArg some (by kernel_rfl))⟩
  f26:=⟨Tryz.f162.name,by decide,Tryz.func162.trans (congrArg some (by kernel_rfl))⟩
  f27:=⟨Tryz.f163.name,by decide,Tryz.func163.trans (congrArg some (by kernel_rfl))⟩
  f28:=⟨Tryz.f164.name,by decide,Tryz.func164.trans (congrArg some (by kernel_rfl))⟩
  f29:=⟨Tryz.f165.name,by decide,Tryz.func165.trans (congrArg some (by kernel_rfl))⟩
  f31:=Tryz.func198.trans (congrArg some (by kernel_rfl))
  f32:=Tryz.func199.trans (congrArg some (by kernel_rfl))
  f36:=⟨Tryz.f197.name,by decide,Tryz.func197.trans (congrArg some (by kernel_rfl))⟩
  f37:=⟨Tryz.f200.name,by decide,Tryz.func200.trans (congrArg some (by kernel_rfl))⟩
  f38:=⟨Tryz.f201.name,by decide,Tryz.func201.trans (congrArg some (by kernel_rfl))⟩
  f39:=⟨Tryz.f202.name,by decide,Tryz.func202.trans (congrArg some (by kernel_rfl))⟩
  f41:=⟨Tryz.f214.name,by decide,Tryz.func214.trans (congrArg some (by kernel_rfl))⟩
  t0:=AgE
  a0:=AhT
  z0:=AhI
  v0:=AgV
  t3:=Tryz.underlying3
  a3:=Tryz.isAgg3
  z3:=Tryz.sizeOf3
  v3:=Tryz.zeroValue3
  t4:=AfK
  a4:=AhS
  z4:=AhH
  v4:=AgU
  t5:=Tryz.underlying5
  a5:=Tryz.isAgg5
  z5:=Tryz.sizeOf5
  v5:=Tryz.zeroValue5
  t9:=AfL
  a9:=Ag6
  z9:=AgF
  v9:=AfV
  t26:=Agb
  a26:=Ahn
  z26:=Ahc
  v26:=Agn
  t27:=Agb
  a27:=Ahn
  z27:=Ahc
  v27:=Agn
  t29:=AfL
  a29:=Ag6
  z29:=AgF
  v29:=AfV
  t32:=Tryz.underlying198
  a32:=Tryz.isAgg198
  z32:=Tryz.sizeOf198
  v32:=Tryz.zeroValue198
  t35:=Tryz.underlying226
  a35:=Tryz.isAgg226
  z35:=Tryz.sizeOf226
  v35:=Tryz.zeroValue226
  t36:=Tryz.underlying227
  a36:=Tryz.isAgg227
  z36:=Tryz.sizeOf227
  v36:=Tryz.zeroValue227
  t41:=Tryz.underlying221
  a41:=Tryz.isAgg221
  z41:=Tryz.sizeOf221
  v41:=Tryz.zeroValue221
  t44:=Tryz.underlying234
  a44:=Tryz.isAgg234
  z44:=Tryz.sizeOf234
  v44:=Tryz.zeroValue234
  t46:=Tryz.underlying163
  a46:=Tryz.isAgg163
  z46:=Tryz.sizeOf163
  v46:=Tryz.zeroValue163
  t53:=Tryz.underlying261
  a53:=Tryz.isAgg261
  z53:=Tryz.sizeOf261
  v53:=Tryz.zeroValue261
  t57:=Tryz.underlying265
  a57:=Tryz.isAgg265
  z57:=Tryz.sizeOf265
  v57:=Tryz.zeroValue265
  t63:=Tryz.underlying279
  a63:=Tryz.isAgg279
  z63:=Tryz.sizeOf279
  v63:=Tryz.zeroValue279
  t64:=Tryz.underlying280
  a64:=Tryz.isAgg280
  z64:=Tryz.sizeOf280
  v64:=Tryz.zeroValue280 }
open Go.RowKit Go.Shelf
theorem IU(w:Acs){F:Nat->Nat}{b:Nat}{G:AhU->Option Nat}(h:MapF St (pF F) Nm w b G):
  Calls Acu 51 #[.map (some b)] w fun e w' =>∃n,e = .returned (.map (some n))/\w.heap.size<=n/\MapF St (pF F) Nm w' n G/\Ext w w' :=by
 obtain⟨es,c,hb,hI⟩:=h;have h0:=AnyW.maps_Clone XJ b es.toArray c w hb;change Calls _ 51 _ _ _ at h0;refine h0.mono fun e w' ⟨he,hw⟩=>⟨w.heap.size,he,Acy _,⟨es,c,by rw[hw];exact heap_alloc_new _ _,hI⟩,by rw[hw];exact(Adp _ _).alloc (Acy _) _⟩
theorem XK(m:Nat):AnyZ.SortsIn Acu JN Fence.wide m:=
 ⟨fun blk off cap ss W hH hblk hsz=>callsIn_wide.2 (AnyM.slices_Sort_string V5 blk off cap ss W hH hblk hsz),fun p cap W=>callsIn_wide.2 (AnyM.slices_Sort_string_none V5 p cap W)⟩
theorem UI(w:Acs)(b:Nat):Calls Acu 53 #[.map (some b)] w fun e w' =>e = .returned (.func (.func 101) #[] #[.pointer (some ⟨w.heap.size,0,none⟩)])/\w' =w.alloc (.cells #[.map (some b)] 79):=by
 have h:=AnyZ.keys_in V4 Fence.wide 5 trivial rfl (some b) w;exact callsIn_wide.1 h
theorem QO{n:Nat}{l:Bb}(h:DirOk n l){ss:List AhU}(hp:ss.Perm (l.map Adr)):ss.mergeSort (fun x y=>decide (x<=y))=l.map Adr:=by
 have h1:=mergeSort_of_perm hp;refine h1.trans (List.mergeSort_of_pairwise ?_);refine h.sort.map _ fun a b q=> ?_;rw[bytesLess_eq,decide_eq_true_eq]at q;simp only[decide_eq_true_eq];exact List.le_of_lt q
set_option maxHeartbeats 1000000 in
theorem QP(w w2:Acs){F:Nat->Nat}{b n:Nat}{l:Bb}(hw:w2=w.alloc (.cells #[.map (some b)] 79))(h:MapF St (pF F) Nm w b (lookD l))(hl:DirOk n l)(hlen:l.length<1099511627776):
  Calls Acu 52 #[.func (.func 101) #[] #[.pointer (some ⟨w.heap.size,0,none⟩)]] w2 fun e w' =>∃v,e = .returned v/\OG w2.heap.size 9 1 FF w' v (l.map Adr)/\Ext w2 w' :=by
 subst hw;obtain⟨D0,hown,hperm,hsize⟩:=h.owns (P:=Acu) (k:=9) (by kernel_rfl) (fun a q=>Acw q (by decide)) (keys:=l.map Adr) (Agm _ (fun a b q e=>by rw[e,FD]at q;cases q) hl.sort) (fun s=>by
  constructor
  ·intro q;obtain⟨y,hy⟩:=Option.isSome_iff_exists.1 q;exact Ado.2 ⟨(s,y),EJ hy,rfl⟩
  ·intro q;obtain⟨e,he,rfl⟩:=Ado.1 q;rw[Hk hl.sort he];rfl) (by rw[AdQ];simp only[maxLen];omega)
 rw[AdQ]at hsize;have hbl:=hown.lt;have hseq:SeqGives Fence.wide 2 Acu 101 #[.pointer (some ⟨w.heap.size,0,none⟩)] encStr (fun ss=>ss.Perm (strKeys D0)) (Maps.size D0) (w.alloc (.cells #[.map (some b)] 79)):=
  AnyZ.keys_gives (ρ:=Mr) { V4 with } Fence.wide _ trivial rfl (by omega) w.heap.size b _ D0 _ (by simp) (by simp) (by
   obtain⟨es,clock,hb,Ft,hs,hD⟩:=hown;exact⟨es,clock,(Below.heap_alloc _ _ b hbl).trans hb,Ft,hs,hD⟩)
 have hS:=AnyZ.sorted_in Wz Fence.wide 5 trivial trivial trivial trivial rfl (by omega) (XK _) (enters_of Tryz.func100 (by kernel_rfl) rfl) 101 #[.pointer (some ⟨w.heap.size,0,none⟩)] trivial (enters_of Tryz.func101 (by kernel_rfl) rfl) _ _ (by rw[hsize];simp only[maxLen];omega) (by rw[hsize];omega) _ hseq;refine(callsIn_wide.1 hS).mono fun e w' q=> ?_;obtain⟨v,ss,he,hp,hrow,-,hB⟩:=q;refine⟨v,he,⟨fun _ _=>rfl,?_⟩,hB⟩;have hs:=QO hl (hp.trans hperm);rw[hs]at hrow;rw[UC];have hlen:ss.length=(l.map Adr).length:=(hp.trans hperm).length_eq;rw[hlen]at hrow;exact hrow
theorem WA(w0 w:Acs)(b:Ext w0 w)(H:Dk)(D:Aj)(hS:DkS w0.heap.size w H D)(g:Nat)(hg:H.g=g)(v:Acr)(a:BP)(ha:ActOk D.files.length a)(hat:ActAt w H.F v a)(hn:D.acts.length<1099511627776):
  Calls Acu 94 #[PQ g 0,v] w fun e w' =>∃va',e = .returned (.tuple #[])/\DkT w0.heap.size w H D w' { H with va:=va' } (turnedD D a):=by
 subst hg;exact LD w0 w b H D hS v a ha hat hn
theorem UJ{base:Nat}{w w' :Acs}{H H1:Dk}{D D1:Aj}(h:DkT base w H D w' H1 D1){v:Acr}{b:AhU}(hr:RB w v b)(ho:b= []\/∀i,v.ownBlock=some i->¬BR H D.files.length i):b= []\/∀i,v.ownBlock=some i->¬BR H1 D1.files.length i:=by
 rcases ho with h0 | ho
 ·exact .inl h0
 ·by_cases hb:b= []
  ·exact .inl hb
  ·refine .inr fun i hi q=> ?_;rcases h.foot i q with q | q
   ·exact ho i hi q
   ·have:=RB.lt hr (List.length_pos_iff.2 hb) hi;omega
theorem DkT.ofExt{base:Nat}{w w' :Acs}{H:Dk}{D:Aj}(h:DkS base w H D)(hE:Ext w w'):DkT base w H D w' H D:=⟨h.keep hE,rfl,Ab8 hE,fun _ q=> .inl q⟩
abbrev Ab6:=@DkT.ofExt
theorem WB{D:Aj}{s b:AhU}{k:Nat}(h:lookD D.now s=some k):Bg D s b = { D with files:=D.files.set k ((D.files.getD k ([],0)).1++b,(D.files.getD k ([],0)).2) } :=by unfold Bg;rw[h];rfl
theorem WC{D:Aj}{s b:AhU}(h:lookD D.now s=none): { turnedD { D with files:=D.files++ [([],0)] } ⟨[],s,D.files.length⟩with files:=(turnedD { D with files:=D.files++ [([],0)] } ⟨[],s,D.files.length⟩).files.set D.files.length (((turnedD { D with files:=D.files++ [([],0)] } ⟨[],s,D.files.length⟩).files.getD D.files.length ([],0)).1++b,((turnedD { D with files:=D.files++ [([],0)] } ⟨[],s,D.files.length⟩).files.getD D.files.length ([],0)).2) } = Bg D s b:=by
 unfold Bg;rw[h];have h1:(turnedD { D with files:=D.files++ [([],0)] } ⟨[],s,D.files.length⟩).files=D.files++ [([],0)]:=rfl;rw[h1,FH];have h2:(D.files++ [(([]:AhU),0)]).set D.files.length ([]++b,0)=D.files++ [(b,0)]:=by
  rw[List.set_append_right _ _ (Acy _),AgC];rfl
 rw[h2];rfl
theorem Dx{α:Type}{l:List α}{k:Nat}{d:α}(h:k<l.length):l.getD k d∈l:=by rw[AcA,AcG h];exact AdX h
theorem J9:Plain Acu 94:=fun _ _=>by kernel_rfl
theorem Pa:AC Acu 120 1 1:=fun b o w=>by simp[go_sem]
theorem UK:Plain Acu 51:=fun _ _=>by kernel_rfl
theorem QS:AC Acu 82 2 2:=fun b o w=>by simp[go_sem]
theorem SY:(Tryz.prog.info? 79).map (·.size)=some 1:=by kernel_rfl
theorem Ms:(Tryz.prog.info? 43).map (·.size)=some 1:=by kernel_rfl
theorem SZ{d:Option Tmp}{ty:Acz}{pos:String}{af:Array Edge}{gd:Option (Nat × Bool)}(σ:AcD->Acr)(w:Acs):(execOp σ ⟨d, .alloc 112,ty,pos,af,gd⟩).run Acu w = .ok (.value (PQ w.heap.size 0)) (w.alloc (.cells ([.pointer none]).toArray 112)):=by kernel_rfl
theorem QT:(Tryz.prog.info? 112).map (·.size)=some 1:=by kernel_rfl
theorem Yn(w0 w:Acs)(a:Ext w0 w)(H:Dk)(D:Aj)(hS:DkS w0.heap.size w H D)(bd bs bf bn k:Nat)(s t:AhU)(hbd:w.heap[bd]? =some (.cells ([PQ H.g 0]).toArray 25 (0,0)))(h3:w.heap[bs]? =some (.cells ([St s]).toArray 9 (0,0)))(h1:w.heap[bf]? =some (.cells ([PQ (H.F k) 0]).toArray 112 (0,0)))(h2:w.heap[bn]? =some (.cells ([St t]).toArray 9 (0,0)))(hk:k<D.files.length)(hs:Bn s=true)(ht:Bn t=true)(hn:D.acts.length<1099511627776):
  Calls Acu 126 #[PQ bd 0,PQ bs 0,PQ bf 0,PQ bn 0] w fun e w' =>∃H',e = .returned (.tuple #[])/\DkT w0.heap.size w H D w' H' (turnedD D ⟨s,t,k⟩):=by
 have hb:=hS.blk;have hgl0:=hS.lo.1;have hsz0:=a.size;refine gG (args:= [PQ bd 0,PQ bs 0,PQ bf 0,PQ bn 0]) Tryz.func126 rfl 7 rfl rfl ?_;have hE:=AbE w;refine gS (YW UE rfl rfl (Ac hbd rfl) (gS (Zl (vs:= #[PQ bs 0,PQ bf 0,PQ bn 0]) (by simp only[AcJ,AcL,AcR];exact congrArg Ac4 (PZ (vr (PQ bs 0) rfl) (vr (PQ bf 0) rfl) (vr (PQ bn 0) rfl))) (gS (Y2 J9 rfl rfl ((LD w0 _ a H D (hS.keep hE) (.func (.func 127) #[] #[PQ bs 0,PQ bf 0,PQ bn 0]) ⟨s,t,k⟩ ⟨hk,fun _=>ht,(BQ hs).2⟩ (.inr (.inl ⟨trivial,bs,bf,bn,rfl,h3,h1,h2,show t.length≠0 from by have:=(BQ ht).1;omega⟩)) hn).mono ?_))))));rintro e w1 ⟨va2,rfl,hT⟩;refine⟨_,rfl,?_⟩;refine Gg rfl ?_;exact⟨_,rfl,hT⟩
theorem Yo(w0 w:Acs)(a:Ext w0 w)(H:Dk)(D:Aj)(hS:DkS w0.heap.size w H D)(bd bs k:Nat)(s:AhU)(hbd:w.heap[bd]? =some (.cells ([PQ H.g 0]).toArray 25 (0,0)))(h3:w.heap[bs]? =some (.cells ([St s]).toArray 9 (0,0)))(hk:k<D.files.length)(hs:Bn s=true)(hn:D.acts.length<1099511627776):
  Calls Acu 119 #[PQ bd 0,PQ bs 0] w fun e w' =>∃H',e = .returned (.tuple #[])/\DkT w0.heap.size w H D w' H' (turnedD D ⟨s,[],k⟩):=by
 have hb:=hS.blk;have hgl0:=hS.lo.1;have hsz0:=a.size;refine gG (args:= [PQ bd 0,PQ bs 0]) Tryz.func119 rfl 5 rfl rfl ?_;have hE:=AbE w;refine gS (YW UE rfl rfl (Ac hbd rfl) (gS (Zl (vs:= #[PQ bs 0]) (by simp only[AcJ,AcL,AcR];exact congrArg Ac4 (Fm (vr (PQ bs 0) rfl))) (gS (Y2 J9 rfl rfl ((LD w0 _ a H D (hS.keep hE) (.func (.func 120) #[] #[PQ bs 0]) ⟨s,[],k⟩ ⟨hk,fun q=>absurd rfl q,(BQ hs).2⟩ (.inr (.inr ⟨bs,rfl,h3,rfl⟩)) hn).mono ?_))))));rintro e w1 ⟨va2,rfl,hT⟩;refine⟨_,rfl,?_⟩;refine Gg rfl ?_;exact⟨_,rfl,hT⟩
theorem Yq(w0 w:Acs)(f:Ext w0 w)(H:Dk)(D:Aj)(hS:DkS w0.heap.size w H D)(bf bd k:Nat)(hbf:w.heap[bf]? =some (.cells ([PQ (H.F k) 0]).toArray 112 (0,0)))(hbd:w.heap[bd]? =some (.cells ([PQ H.g 0]).toArray 25 (0,0)))(hkl:k<D.files.length):
  Calls Acu 96 #[PQ bf 0,PQ bd 0] w fun e w' =>∃H',e = .returned (.tuple #[])/\DkT w0.heap.size w H D w' H' ({ D with files:=D.files.set k ((Ap D k).1,(Ap D k).1.length),kept:=D.now,acts:= [] }):=by
 have hb:=hS.blk;have hgl0:=hS.lo.1;have hsz0:=f.size;have h:=hS;have hbd0:=hbd;have af:bf≠H.F k:=BC (Bp hbf) (hS.tF hkl) (by decide);have ag:bd≠H.F k:=BC (Bp hbd) (hS.tF hkl) (by decide);have ah:H.g≠H.F k:=BC hS.tg (hS.tF hkl) (by decide);have hfa:=h.files.at_ k hkl;have hfb:=hfa.blk;have hfl:=(bl hfb);have hfo:=hfa.row;have hflo:=hfa.lo;have hfv:(H.V k).ownBlock≠some (H.F k):=fun q=>BC (h.tF hkl) (h.tV hkl q) (by decide) rfl;have hfr:RB w (H.V k) (D.files.getD k ([],0)).1:=Zc hfo;have hC:Chg (fun i=>i=(H.F k)) w w:=Acg _ _;refine gG (args:= [PQ bf 0,PQ bd 0]) Tryz.func96 rfl 21 rfl rfl ?_;have hE:=AbE w;refine gM0 [0,1,2,3,4,5,6,7,8] [8] [] fun w2 j=> ?_;have hC:Chg (fun i=>i=(H.F k)) w w2:=(hC.keep j);have hbf:=eb j hbf;have hfb:=eb j hfb;have hE:=hE.trans j;refine ys (YW Mq rfl rfl (Ac hbf rfl) zz) (ys (YW Mq rfl rfl (Ac hbf rfl) zz) (ys (AbF rfl zz) (ys (AbD O8 rfl zz) (ys (YW G1 rfl rfl (Ac hfb rfl) zz) (ys (Zk G1 (Zn (hfr.keep hE) rfl) zz) (ys (AbF rfl zz) (ys (AbD Pa rfl zz) (yC (Y1 (i:=1) (v:=NI (((D.files.getD k ([],0)).1:AhU).length)) rfl rfl hfb (AcF rfl) Dw rfl rfl fun b p r ai=> ?_)))))))));have hC:Chg (fun i=>i=(H.F k)) w b:=Ab3 hC r (.inl rfl);clear hE;clear hfb;have hfb:=p;clear p;have aj:=bl hfb;have hT1:=h.setFileT (x:=((D.files.getD k ([],0)).1,(D.files.getD k ([],0)).1.length)) hkl (Acy _) (hC.mono fun i _ e=> .inl e) ⟨hfb,CY hC hfo (fun i e q=>hfv (e.trans (congrArg some q))),hflo⟩ (fun i e=> .inl e);have hbd1:=AbY hT1 h hbd0 (by decide) (by decide) (by decide) (by decide);obtain⟨H1,s⟩:∃x,x=({ H with V:=Bj H.V k (H.V k) } :Dk):=⟨_,rfl⟩;obtain⟨D1,hD1⟩:∃x,x=({ D with files:=D.files.set k ((D.files.getD k ([],0)).1,(D.files.getD k ([],0)).1.length) } :Aj):=⟨_,rfl⟩;rw[<-s,<-hD1]at hT1;have y:H1.g=H.g:=by rw[s]
 have c:=hT1.st;have f:=f.trans j;have f:=Ad f r (Acw (Acy _) (by omega));have z:=f;have a:=c.blk;have hgl1:=(bl a);rw[<-y]at hbd1;have hm1:=c.now;have ak:bd≠H1.g:=BC (Bp hbd1) c.tg (by decide);have hgm:H1.g≠H1.mn:=BC c.tg c.now.tag (by decide);have hmn1:=c.now.lt;have hC2:Chg (fun i=>i=H1.g) b b:=Acg _ _;have hg1l:=c.lo.1;refine FS [0,1,2,3,4,5,6,7,8,9,10,11,12] [6,9,12] [] [0,1] fun w9 l=> ?_;have hC2:Chg (fun i=>i=H1.g) b w9:=(hC2.keep l);have hm1:=hm1.keep l;have a:=eb l a;have hbd1:=eb l hbd1;refine RL hbd1 ?_;refine yf (fun _ ⟨hbd1,_⟩=>YW UE rfl rfl (Ac hbd1 rfl) zz) (yf (fun _ ⟨hbd1,_⟩=>YW UE rfl rfl (Ac hbd1 rfl) zz) (ys (YW UE rfl rfl (Ac hbd1 rfl) zz) (ys (AbF rfl zz) (ys (AbD QL rfl zz) (ys (YW N4 rfl rfl (Ac a rfl) zz) (yI (YZ UK rfl ((IU _ hm1).mono ?_))))))));rintro e ab ⟨nm,rfl,hnl,hmm,m⟩;refine⟨_,rfl,?_⟩;have hnl1:b.heap.size<=nm:=Acw hC2.size hnl;have hC2:Chg (fun i=>i=H1.g) b ab:=(hC2.keep m);have hgn:H1.g≠nm:=by omega
 have a:=eb m a;have hbd1:=eb m hbd1;refine⟨⟨hbd1,trivial⟩,?_⟩;refine ys (AbF rfl zz) (ys (AbD QS rfl zz) (yI (Y1 (i:=2) (v:= .map (some nm)) rfl rfl a (AcF rfl) SY rfl rfl fun ac t n al=> ?_)));have hm1:=hm1.keep m;have hm1:=AbT hm1 n (Cn (by omega));have hC2:Chg (fun i=>i=H1.g) b ac:=Ab3 hC2 n (.inl rfl);have hmm:=AbT hmm n (Cn (by omega));clear a;have a:=t;clear t;have am:=bl a;have hbd1:=kb n hbd1 (by omega);refine⟨⟨hbd1,trivial⟩,?_⟩;refine ys (AbF rfl zz) (ys (AbD K5 rfl zz) (yD rfl (Y1 (i:=3) (v:=(AcI none 0 0)) rfl rfl a (AcF rfl) SW rfl rfl fun ad u o an=> ?_)));have hm1:=AbT hm1 o (Cn (by omega));have hC2:Chg (fun i=>i=H1.g) b ad:=Ab3 hC2 o (.inl rfl);have hmm:=AbT hmm o (Cn (by omega));clear a;have a:=u;clear u;have ao:=bl a;refine Gg rfl ?_;have ae:=a;have hT2:=c.syncedT hC2 hnl1 hmm z.size ae;exact⟨_,rfl,by have:=hT1.trans hT2;rw[hD1]at this;exact this⟩
theorem Yr(w0 w:Acs)(c:Ext w0 w)(H:Dk)(D:Aj)(hS:DkS w0.heap.size w H D)(bd bn bb:Nat)(s b:AhU)(vb:Acr)(hbd:w.heap[bd]? =some (.cells ([PQ H.g 0]).toArray 25 (0,0)))(hbn:w.heap[bn]? =some (.cells ([St s]).toArray 9 (0,0)))(hbb:w.heap[bb]? =some (.cells ([vb]).toArray 43 (0,0)))(hrb:RB w vb b)(hoff:b= []\/∀i,vb.ownBlock=some i->¬BR H D.files.length i)(hs:Bn s=true)(hbl:b.length<1099511627776)(hfs:∀x∈D.files,x.1.length<1099511627776)(hn:D.acts.length<1099511627776)(k:Nat)(hlk:lookD D.now s=some k):
  Calls Acu 93 #[PQ bd 0,PQ bn 0,PQ bb 0] w fun e w' =>∃H',e = .returned (.tuple #[])/\DkT w0.heap.size w H D w' H' (Bg D s b):=by
 have hb:=hS.blk;have hgl0:=hS.lo.1;have hsz0:=c.size;have aa:=hS;have hrb0:=hrb;have ab:=c;have hT12:=DkT.refl hS;have hkl:=(hS.ok.now.look hlk).1;have hlb:=hfs _ (Dx (d:=([],0)) hkl);refine gG (args:= [PQ bd 0,PQ bn 0,PQ bb 0]) Tryz.func93 rfl 32 rfl rfl ?_;have hE:=AbE w;refine gM0 [0,1,2,3,4,5,6] [] [] fun u h=> ?_;have hT12:DkT w0.heap.size w H D u H D:=(hT12.keep h);have hb:=eb h hb;have hbd:=eb h hbd;have hbn:=eb h hbn;refine ys (YW UE rfl rfl (Ac hbd rfl) zz) (ys (AbF rfl zz) (ys (AbD QL rfl zz) (ys (YW N4 rfl rfl (Ac hb rfl) zz) (ys (YW EI rfl rfl (Ac hbn rfl) zz) (ys (ZO FO EF (fun _ _=>DL) N4 HU rfl rfl hT12.st.now (BQ hs).2 hlk zz) (ys (ZC Mq rfl zz) (kB (rfl) (cF rfl (gM0 [0,1,2,3,4,5,6] [] [] fun f j=> ?_)))))))));have hT12:DkT w0.heap.size w H D f H D:=(hT12.keep j);have hb:=eb j hb;have hbd:=eb j hbd;have hbn:=eb j hbn;refine ys (YW UE rfl rfl (Ac hbd rfl) zz) (ys (AbF rfl zz) (ys (AbD QL rfl zz) (ys (YW N4 rfl rfl (Ac hb rfl) zz) (ys (YW EI rfl rfl (Ac hbn rfl) zz) (ys (ZO FO EF (fun _ _=>DL) N4 HU rfl rfl hT12.st.now (BQ hs).2 hlk zz) ?_)))));have hTc:=hT12;have hSc:=hTc.st;have hfa:=hSc.files.at_ k hkl;have hfb:=hfa.blk;have hfl:=(bl hfb);have hfo:=hfa.row;have hflo:=hfa.lo;have hfv:(H.V k).ownBlock≠some (H.F k):=fun q=>BC (hSc.tF hkl) (hSc.tV hkl q) (by decide) rfl;have hC:Chg (fun i=>i=(H.F k)\/(H.V k).ownBlock=some i) f f:=Acg _ _;have hsy:=hSc.ok.syn _ (Dx (d:=([],0)) hkl);have hZ1:=h.trans j;have hbb:=eb hZ1 hbb;have hvb:Adc (H.V k)≠some bb:=fun q=>BC (Bp hbb) (hSc.tV hkl q) (by decide) rfl;have ac:bb≠(H.F k):=BC (Bp hbb) (hSc.tF hkl) (by decide);refine gM0 [0,1,2,3,4,5,6,7,8,9] [6,9] [] fun o l=> ?_;have hC:Chg (fun i=>i=(H.F k)\/(H.V k).ownBlock=some i) f o:=(hC.keep l);have hZ2:=hZ1.trans l;have hE:=hE.trans hZ2;have c:=c.trans hZ2;have hbb:=eb l hbb;have hfb:=eb l hfb;have hfo:=AbW _ _ _ _ _ _ _ _ hfo l;refine ys (AbF rfl zz) (ys (AbD O8 rfl zz) (ys (YW G1 rfl rfl (Ac hfb rfl) zz) (ys (YW G1 rfl rfl (Ac hbb rfl) zz) (yC (ZI _ _ w0.heap.size (.int .u8 0) G1 P0 rfl G1 ((D.files.getD k ([],0)).1) (b) (G0 hfo (vr (H.V k) rfl)) (Zn (hrb.keep hE) (vr vb rfl)) (by omega) c.size fun n p m a=> ?_)))));have a:Grew o p (H.V k) n:=a;have y:Adc n≠some (H.F k):=Ca a hfv (bl hfb);have hbb:=AV hbb a hvb;clear hE;have c:=Br c a hfo (Acy _);have hfb:=AV hfb a hfv;have hvf:=fun i e=>(a.fresh i e).imp id (fun q=>Acw hC.size q);have hC:Chg (fun i=>i=(H.F k)\/(H.V k).ownBlock=some i) f p:=Aaf hC a (fun i e=> .inl (.inr e));clear hfo;refine ys (AbF rfl zz) (ys (AbD O8 rfl zz) (yC (Y1 (i:=0) (v:=n) rfl rfl hfb (AcF rfl) Ms (CE m).1 (CE m).2 fun z r t ad=> ?_)));have hC:Chg (fun i=>i=(H.F k)\/(H.V k).ownBlock=some i) f z:=Ab3 hC t (.inl (.inl rfl));clear hfb;have hfb:=r;clear r;have ae:=bl hfb;refine Gg rfl ?_;have m:=EG m t y;have hTf:=hSc.setFileT (x:=((D.files.getD k ([],0)).1++b,(D.files.getD k ([],0)).2)) hkl (by simp only[Acx];omega) hC ⟨hfb,(show Aho _ _ _ _ _ _ _ from by simpa using m),hflo⟩ hvf;exact⟨_,rfl,by rw[WB hlk];exact hTc.trans hTf⟩
theorem Ys(w0 w:Acs)(a:Ext w0 w)(H:Dk)(D:Aj)(hS:DkS w0.heap.size w H D)(bd bn bb:Nat)(s b:AhU)(vb:Acr)(hbd:w.heap[bd]? =some (.cells ([PQ H.g 0]).toArray 25 (0,0)))(hbn:w.heap[bn]? =some (.cells ([St s]).toArray 9 (0,0)))(hbb:w.heap[bb]? =some (.cells ([vb]).toArray 43 (0,0)))(hrb:RB w vb b)(hoff:b= []\/∀i,vb.ownBlock=some i->¬BR H D.files.length i)(hs:Bn s=true)(hbl:b.length<1099511627776)(hfs:∀x∈D.files,x.1.length<1099511627776)(hn:D.acts.length<1099511627776)(hlk:lookD D.now s=none):
  Calls Acu 93 #[PQ bd 0,PQ bn 0,PQ bb 0] w fun e w' =>∃H',e = .returned (.tuple #[])/\DkT w0.heap.size w H D w' H' (Bg D s b):=by
 have hb:=hS.blk;have hgl0:=hS.lo.1;have hsz0:=a.size;have ap:=hS;have hrb0:=hrb;have aq:=a;have hT12:=DkT.refl hS;refine gG (args:= [PQ bd 0,PQ bn 0,PQ bb 0]) Tryz.func93 rfl 32 rfl rfl ?_;have hE:=AbE w;refine gM0 [0,1,2,3,4,5,6] [] [] fun w3 j=> ?_;have hT12:DkT w0.heap.size w H D w3 H D:=(hT12.keep j);have hb:=eb j hb;have hbd:=eb j hbd;have hbn:=eb j hbn;refine ys (YW UE rfl rfl (Ac hbd rfl) zz) (ys (AbF rfl zz) (ys (AbD QL rfl zz) (ys (YW N4 rfl rfl (Ac hb rfl) zz) (ys (YW EI rfl rfl (Ac hbn rfl) zz) (ys (Aap FO EF (fun _ _=>DL) N4 HU rfl rfl hT12.st.now (BQ hs).2 hlk zz) (ys (ZC Mq rfl zz) (kB (rfl) (cT rfl (gS (Ab4 (v:= .agg #[.slice none 0 0,NI 0]) (by kernel_rfl) ?_))))))))));have hE:=hE.trans j;have hzb:=hE.size;refine gS (AbU (cs:=([.slice none 0 0,NI 0]:List Acr).toArray) (show _=(.agg ([.slice none 0 0,NI 0]:List Acr).toArray:Acr)from rfl) fun m w7 a0 ag aa a1=> ?_);have c:=AbE w3;have a:=a.trans j;have a2:=hE.size;have a3:=a.size;have ab:=ag;clear ag;have a4:m<w7.heap.size:=by omega
 refine gS (AbM SZ fun n ar a5 ah y a6=> ?_);have o:=AbE w7;have hE:=hE.trans aa;have a:=a.trans aa;have c:=c.trans aa;have au:=hE.size;have av:=a.size;have p:=ah;clear ah;have a7:n<ar.heap.size:=by omega
 refine gS (Y1 (i:=0) (v:=PQ m 0) rfl rfl p (AcF rfl) QT rfl rfl fun a8 ai z a9=> ?_);clear p;have p:=ai;clear ai;have ba:=bl p;have aw:=c.size;have c:=c.trans y;have c:=Ad c z (Acw aw (by omega));have hbd:=eb c hbd;refine gS (YW UE rfl rfl (Ac hbd rfl) (gS (Zl (vs:= #[PQ n 0,PQ bn 0]) (by simp only[AcJ,AcL,AcR];exact congrArg Ac4 (B4 (vr (PQ n 0) rfl) (vr (PQ bn 0) rfl))) ?_)));have o:=o.trans y;have o:=Ad o z (Acw (Acy _) (by omega));have ab:=eb o ab;have hE:=hE.trans y;have hE:=Ad hE z (Acw au (by omega));have hT1:=ap.newFileT (f:=m) hE (by omega) ab aq.size;obtain⟨H1,ac⟩:∃x,x=({ H with F:=Bj H.F D.files.length m,V:=Bj H.V D.files.length (.slice none 0 0) } :Dk):=⟨_,rfl⟩;obtain⟨D1,hD1⟩:∃x,x=({ D with files:=D.files++ [([],0)] } :Aj):=⟨_,rfl⟩;rw[<-ac,<-hD1]at hT1;have r:=hT1.st;have aj:H1.g=H.g:=by rw[ac]
 have hF1:H1.F D.files.length=m:=by rw[ac];exact BJ _ _ _
 have hD1l:D1.files.length=D.files.length+1:=by rw[hD1];simp
 have hsl:=(BQ hs).1;have hbd1:=hbd;have hbn:=eb c hbn;have hbn1:=hbn;have hbb:=eb (j.trans c) hbb;have hbb1:=hbb;have hrb1:=(hrb.keep hE);have a:=a.trans y;have a:=Ad a z (Acw av (by omega));refine gS (Y2 J9 rfl rfl ((WA w0 _ a H1 D1 r H.g aj (.func (.func 95) #[] #[PQ n 0,PQ bn 0]) ⟨[],s,D.files.length⟩ ⟨by rw[hD1l];exact Nat.lt_succ_self _,fun _=>hs,AcO _⟩ (.inl ⟨n,bn,rfl,by rw[hF1];exact p,hbn,rfl,show s.length≠0 from by omega⟩) (by rw[hD1];exact hn)).mono ?_));rintro e bc ⟨va2,rfl,hT2⟩;refine⟨_,rfl,?_⟩;have a:=Chg.ext a hT2.chg (fun i q=>(r.foot q).2.2);have hT12:=hT1.trans hT2;obtain⟨H2,ak⟩:∃x,x=({ H1 with va:=va2 } :Dk):=⟨_,rfl⟩;obtain⟨D2,hD2⟩:∃x,x=turnedD D1 ⟨[],s,D.files.length⟩:=⟨_,rfl⟩;rw[<-ak,<-hD2]at hT12;have ax:H2.g=H.g:=by rw[ak];exact aj
 have hlk2:lookD D2.now s=some D.files.length:=by rw[hD2];exact(look_turn _ _ _).trans ((if_neg (show s.length≠0 by omega)).trans (if_pos rfl))
 have hkl:=(hT12.st.ok.now.look hlk2).1;have hlb:(D2.files.getD D.files.length ([],0)).1.length<1099511627776:=by rw[hD2,hD1];show((D.files++ [(([]:AhU),0)]).getD D.files.length ([],0)).1.length<_;rw[FH];decide
 have hoff1:=UJ hT1 hrb0 hoff;have hbd:=AbY hT2 r hbd1 (by decide) (by decide) (by decide) (by decide);have hbn:=AbY hT2 r hbn1 (by decide) (by decide) (by decide) (by decide);have hbb:=AbY hT2 r hbb1 (by decide) (by decide) (by decide) (by decide);have hrb:=hrb1.chg hT2.chg hoff1;have hb:=eb c hb;have hb:=hT12.st.blk;rw[ax]at hb;have hgl2:=(bl hb);refine gM0 [0,1,2,3,4,5,6] [] [] fun k l=> ?_;have hT12:DkT w0.heap.size w H D k H2 D2:=(hT12.keep l);have hb:=eb l hb;have hbd:=eb l hbd;have hbn:=eb l hbn;refine ys (YW UE rfl rfl (Ac hbd rfl) zz) (ys (AbF rfl zz) (ys (AbD QL rfl zz) (ys (YW N4 rfl rfl (Ac hb rfl) zz) (ys (YW EI rfl rfl (Ac hbn rfl) zz) (ys (ZO FO EF (fun _ _=>DL) N4 HU rfl rfl hT12.st.now (BQ hs).2 hlk2 zz) ?_)))));have hTc:=hT12;have hSc:=hTc.st;have hfa:=hSc.files.at_ (D.files.length) hkl;have hfb:=hfa.blk;have hfl:=(bl hfb);have hfo:=hfa.row;have hflo:=hfa.lo;have hfv:(H2.V (D.files.length)).ownBlock≠some (H2.F (D.files.length)):=fun q=>BC (hSc.tF hkl) (hSc.tV hkl q) (by decide) rfl;have hC:Chg (fun i=>i=(H2.F (D.files.length))\/(H2.V (D.files.length)).ownBlock=some i) k k:=Acg _ _;have hsy:=hSc.ok.syn _ (Dx (d:=([],0)) hkl);have hbb:=eb l hbb;have hvb:Adc (H2.V (D.files.length))≠some bb:=fun q=>BC (Bp hbb) (hSc.tV hkl q) (by decide) rfl;have be:bb≠(H2.F (D.files.length)):=BC (Bp hbb) (hSc.tF hkl) (by decide);refine gM0 [0,1,2,3,4,5,6,7,8,9] [6,9] [] fun al t=> ?_;have hC:Chg (fun i=>i=(H2.F (D.files.length))\/(H2.V (D.files.length)).ownBlock=some i) k al:=(hC.keep t);have hZ1:=l.trans t;have a:=a.trans hZ1;have hrb:=hrb.keep hZ1;have hbb:=eb t hbb;have hfb:=eb t hfb;have hfo:=AbW _ _ _ _ _ _ _ _ hfo t;refine ys (AbF rfl zz) (ys (AbD O8 rfl zz) (ys (YW G1 rfl rfl (Ac hfb rfl) zz) (ys (YW G1 rfl rfl (Ac hbb rfl) zz) (yC (ZI _ _ w0.heap.size (.int .u8 0) G1 P0 rfl G1 ((D2.files.getD (D.files.length) ([],0)).1) (b) (G0 hfo (vr (H2.V (D.files.length)) rfl)) (Zn hrb (vr vb rfl)) (by omega) a.size fun ad am u h=> ?_)))));have h:Grew al am (H2.V (D.files.length)) ad:=h;have ay:Adc ad≠some (H2.F (D.files.length)):=Ca h hfv (bl hfb);have a:=Br a h hfo (Acy _);have hbb:=AV hbb h hvb;clear hrb;have hfb:=AV hfb h hfv;have hvf:=fun i e=>(h.fresh i e).imp id (fun q=>Acw hC.size q);have hC:Chg (fun i=>i=(H2.F (D.files.length))\/(H2.V (D.files.length)).ownBlock=some i) k am:=Aaf hC h (fun i e=> .inl (.inr e));clear hfo;refine ys (AbF rfl zz) (ys (AbD O8 rfl zz) (yC (Y1 (i:=0) (v:=ad) rfl rfl hfb (AcF rfl) Ms (CE u).1 (CE u).2 fun az an ao bf=> ?_)));have hC:Chg (fun i=>i=(H2.F (D.files.length))\/(H2.V (D.files.length)).ownBlock=some i) k az:=Ab3 hC ao (.inl (.inl rfl));clear hfb;have hfb:=an;clear an;have bg:=bl hfb;refine Gg rfl ?_;have u:=EG u ao ay;have hTf:=hSc.setFileT (x:=((D2.files.getD (D.files.length) ([],0)).1++b,(D2.files.getD (D.files.length) ([],0)).2)) hkl (by simp only[Acx];omega) hC ⟨hfb,(show Aho _ _ _ _ _ _ _ from by simpa using u),hflo⟩ hvf;exact⟨_,rfl,by rw[<-WC hlk];have:=hTc.trans hTf;rw[hD2,hD1]at this;exact this⟩
theorem AaX{P:AcN}{K:Acr->Acs->Prop}{ρ:Ah}{w:Acs}{d:Option Tmp}{ty:Acz}{pos:String}{af:Array Edge}{gd:Option (Nat × Bool)}{f:FuncId}{c:AcD}{v:Acr}{caps:Array Acr}{R:Acs->Prop}{at_:Array Acz}(hp:Plain P f)(hc:Ab ρ c=v)(hve:v = .func (.func f) #[] caps) 
  (h:Calls P f caps w fun e w' =>e = .returned (.tuple #[])/\R w') (hk:∀w',R w' ->K (.tuple #[]) w'):Yk P K ((execOp (Ab ρ) ⟨d, .call ⟨.value c,#[],at_⟩,ty,pos,af,gd⟩).run P w):=
 Zq hp (hc.trans hve) _ (by simp) (h.mono fun e w' q=>⟨_,q.1,hk w' q.2⟩)
theorem CW:AC Acu 82 5 5:=fun b o w=>by simp[go_sem]
theorem UL:(Tryz.prog.info? 4).map (·.size)=some 1:=by kernel_rfl
theorem K6(w0 w:Acs)(l:Ext w0 w)(H:Dk)(D:Aj)(hS:DkS w0.heap.size w H D)(hdn:D.down=false)(har:D.arm<9223372036854775808)(v:Acr)(f:FuncId)(caps:Array Acr)(hpl:Plain Acu f)(hve:v = .func (.func f) #[] caps)(g:Aj->Aj) 
  (hc:∀w1 D1,DkT w0.heap.size w H D w1 H D1->D1=(BY D).1->Calls Acu f caps w1 fun e w' =>e = .returned (.tuple #[])/\∃H',DkT w0.heap.size w1 H D1 w' H' (g D1)):
  Calls Acu 92 #[PQ H.g 0,v] w fun e w' =>∃H',e = .returned (NI (Ds D g).2)/\DkT w0.heap.size w H D w' H' (Ds D g).1:=by
 have hb:=hS.blk;have hgl:=(bl hb);have hgl0:=hS.lo.1;have hsz0:=l.size;have c:=hS;have hgr:=Ac0 w (some H.g);refine gG (args:= [PQ H.g 0,v]) Tryz.func92 rfl 27 rfl rfl ?_;have hE:=AbE w;by_cases ha0:D.arm=0
 ·have hA:BY D=(D,false):=if_pos ha0;have hV:Ds D g=(g D,0):=by unfold Ds;rw[hA];rfl
  refine gS (AbF rfl (gS (AbD CW rfl (gS (YW NB rfl rfl (Ac hb rfl) (gS (YX (a:=(D.arm:Nat)) (b:=(0:Nat)) rfl rfl (CD _ _ _ _) (kF (by omega) (cF rfl ?_)))))))));have hT1:=Ab6 c hE;have hD1:D=(BY D).1:=by rw[hA]
  refine gS (AaX hpl rfl hve (hc _ _ hT1 hD1) fun s hR6=> ?_);obtain⟨H3,hT2⟩:=hR6;have hT3:=hT1.trans hT2;refine AD rfl (vr (NI 0) rfl) ?_;exact⟨H3,by rw[hV],by rw[hV];exact hT3⟩
 have hA:BY D=({ D with arm:=D.arm-1,down:=decide (D.arm-1=0) },decide (D.arm-1=0)):=if_neg ha0;by_cases ha1:D.arm-1=0
 ·rw[decide_eq_true ha1]at hA;have hV:Ds D g=({ D with arm:=D.arm-1,down:=true },9):=by unfold Ds;rw[hA];rfl
  refine gS (AbF rfl (gS (AbD CW rfl (gS (YW NB rfl rfl (Ac hb rfl) (gS (YX (a:=(D.arm:Nat)) (b:=(0:Nat)) rfl rfl (CD _ _ _ _) (kT (by omega) (cT rfl (gS (AbF rfl (gS (AbD CW rfl (gS (YW NB rfl rfl (Ac hb rfl) (gS (Y4 (xv:=NI D.arm) (yv:=NI 1) rfl rfl rfl (Ff _ _ _ (by omega) (by omega)) (gS (AbF rfl (gS (AbD CW rfl (gS (Y1 (i:=5) (v:=NI ((D.arm)-(1))) rfl rfl hb (AcF rfl) Dw rfl rfl fun m h n t=> ?_)))))))))))))))))))))));have hgr:w.grownBy m (some H.g):=Aa hgr n (fun _ e=> .inl e);clear hE;clear hb;have hb:=h;clear h;have u:=bl hb;refine gS (AbF rfl (gS (AbD CW rfl (gS (YW NB rfl rfl (Ac hb rfl) (gS (YX (a:=((D.arm)-(1):Nat)) (b:=(0:Nat)) rfl rfl (AK _ _ _ _) (kT (by omega) (cT rfl (gS (AbF rfl (gS (AbD QK rfl (gS (Y1 (i:=6) (v:= .bool (true)) rfl rfl hb (AcF rfl) UL rfl rfl fun o j p x=> ?_)))))))))))))));have hgr:w.grownBy o (some H.g):=Aa hgr p (fun _ e=> .inl e);clear hb;have hb:=j;clear j;have y:=bl hb;refine AD rfl (vr (NI 9) rfl) ?_;exact⟨H,by rw[hV],by rw[hV];exact c.setBlkT hgr hb⟩
 rw[decide_eq_false ha1]at hA;have hV:Ds D g=(g { D with arm:=D.arm-1,down:=false },0):=by unfold Ds;rw[hA];rfl
 refine gS (AbF rfl (gS (AbD CW rfl (gS (YW NB rfl rfl (Ac hb rfl) (gS (YX (a:=(D.arm:Nat)) (b:=(0:Nat)) rfl rfl (CD _ _ _ _) (kT (by omega) (cT rfl (gS (AbF rfl (gS (AbD CW rfl (gS (YW NB rfl rfl (Ac hb rfl) (gS (Y4 (xv:=NI D.arm) (yv:=NI 1) rfl rfl rfl (Ff _ _ _ (by omega) (by omega)) (gS (AbF rfl (gS (AbD CW rfl (gS (Y1 (i:=5) (v:=NI ((D.arm)-(1))) rfl rfl hb (AcF rfl) Dw rfl rfl fun q k r z=> ?_)))))))))))))))))))))));have hgr:w.grownBy q (some H.g):=Aa hgr r (fun _ e=> .inl e);clear hE;clear hb;have hb:=k;clear k;have aa:=bl hb;refine gS (AbF rfl (gS (AbD CW rfl (gS (YW NB rfl rfl (Ac hb rfl) (gS (YX (a:=((D.arm)-(1):Nat)) (b:=(0:Nat)) rfl rfl (AK _ _ _ _) (kF (by omega) (cF rfl ?_)))))))));have hT1:=c.setBlkT hgr hb;have hD1:({ D with quota:=D.quota,refused:=D.refused,arm:=D.arm-1,down:=D.down } :Aj)=(BY D).1:=by rw[hA,hdn]
 refine gS (AaX hpl rfl hve (hc _ _ hT1 hD1) fun ab hR35=> ?_);obtain⟨H3,hT2⟩:=hR35;have hT3:=hT1.trans hT2;refine AD rfl (vr (NI 0) rfl) ?_;exact⟨H3,by rw[hV],by rw[hV];rw[<-hdn];exact hT3⟩
structure Eo (D : Aj) : Prop where
 quota:D.quota<=1073741824
 used:usedD D<4611686018427387904
 refused:D.refused<4611686018427387904
 arm:D.arm<9223372036854775808
 acts:D.acts.length<1099511627776
 now:D.now.length<1099511627776
 kept:D.kept.length+D.acts.length<1099511627776
 files:∀x∈D.files,x.1.length<1099511627776
theorem N7(D:Aj)(s t:AhU):readyL D [t,s]=Cy D s t:=by
 unfold readyL Cy;by_cases h:D.down=true
 ·rw[if_pos h,if_pos h]
 ·rw[if_neg h,if_neg h];simp only[Ahl,List.all_nil,Bool.and_true,AcZ];by_cases h1:Bn s=true <;> by_cases h2:Bn t=true <;> simp[h1,h2]
theorem Gv(D:Aj)(s:AhU):readyL D [s]=Cy D s s:=by
 rw[<-N7];unfold readyL;simp
theorem WD(w0 w:Acs)(c:Ext w0 w)(H:Dk)(D:Aj)(hS:DkS w0.heap.size w H D)(bd bn bb:Nat)(s b:AhU)(vb:Acr)(hbd:w.heap[bd]? =some (.cells ([PQ H.g 0]).toArray 25 (0,0)))(hbn:w.heap[bn]? =some (.cells ([St s]).toArray 9 (0,0)))(hbb:w.heap[bb]? =some (.cells ([vb]).toArray 43 (0,0))) 
  (hrb:RB w vb b) (hoff:b= []\/∀i,vb.ownBlock=some i->¬BR H D.files.length i) (hs:Bn s=true) (hbl:b.length<1099511627776) (hfs:∀x∈D.files,x.1.length<1099511627776) (hn:D.acts.length<1099511627776):
  ∀w1 D1,DkT w0.heap.size w H D w1 H D1->D1=(BY D).1->Calls Acu 93 #[PQ bd 0,PQ bn 0,PQ bb 0] w1 fun e w' =>e = .returned (.tuple #[])/\∃H',DkT w0.heap.size w1 H D1 w' H' (Bg D1 s b):=by
 intro w1 D1 hT hD1;have hf:=Ej D;rw[<-hD1]at hf;have a:Ext w0 w1:=Chg.ext c hT.chg (fun i q=>(hS.foot q).2.2);have h1:=AbY hT hS hbd (by decide) (by decide) (by decide) (by decide);have h2:=AbY hT hS hbn (by decide) (by decide) (by decide) (by decide);have h3:=AbY hT hS hbb (by decide) (by decide) (by decide) (by decide);have h4:=hrb.chg hT.chg hoff;have h5:b= []\/∀i,vb.ownBlock=some i->¬BR H D1.files.length i:=by rw[hf.1];exact hoff
 cases hlk:lookD D1.now s with
 | none=>exact(Ys w0 w1 a H D1 hT.st bd bn bb s b vb h1 h2 h3 h4 h5 hs hbl (by rw[hf.1];exact hfs) (by rw[hf.2.2.2.1];exact hn) hlk).mono fun e w' ⟨H',q1,q2⟩=>⟨q1,H',q2⟩
 | some k=>exact(Yr w0 w1 a H D1 hT.st bd bn bb s b vb h1 h2 h3 h4 h5 hs hbl (by rw[hf.1];exact hfs) (by rw[hf.2.2.2.1];exact hn) k hlk).mono fun e w' ⟨H',q1,q2⟩=>⟨q1,H',q2⟩
theorem AaD{P:AcN}{K:Acr->Acs->Prop}{ρ:Ah}{w:Acs}{d:Option Tmp}{ty:Acz}{pos:String}{af:Array Edge}{gd:Option (Nat × Bool)}{α:Type}{enc:α->List Acr}{t e:Acz}{x:AcD}{a:α}{u:Acr}(hx:Ab ρ x=u)(hu:enc a= [u]) 
  (hr:∀w:Acs,(Ac1 t 1 #[(0,u)]).run P w = .ok (.slice (some ⟨w.heap.size,0,none⟩) 1 1) (w.alloc (.cells #[u] e)))
  (hk:∀n w',FullG 1 enc w' (.slice (some ⟨n,0,none⟩) 1 1) [a]->Ext w w' ->K (.slice (some ⟨n,0,none⟩) 1 1) w'):Yk P K ((execOp (Ab ρ) ⟨d, .buildSlice t 1 #[(0,x)],ty,pos,af,gd⟩).run P w):=by
 have hE:Ext w (w.alloc (.cells #[u] e)):=(Adp _ _).alloc (Acy _) _;have hb:(w.alloc (.cells #[u] e)).heap[w.heap.size]? =some (.cells ([u]:List Acr).toArray e (0,0)):=heap_alloc_new w _;refine AbK (v:= .slice (some ⟨w.heap.size,0,none⟩) 1 1) (w' :=w.alloc (.cells #[u] e)) ?_ (hk _ _ (.inr ⟨_,rfl,fun y hy=>by rw[Ada.1 hy,hu];rfl,by simp[hu],_,1,rfl,Acy _,by simp[maxLen],(fun hq=>by cases hq),fun q hq j z hz=> ?_⟩) hE)
 ·unfold execOp;simp only[AcJ,AcL,AcR,hx,AcC,hr,AcB,AcE]
 ·cases hq;rw[Addr.add_lit,Aec];exact Ac hb (by simpa [hu] using hz)
theorem Hm(D:Aj)(s:AhU):E6 D s s=DE D [] s:=by
 unfold E6 DE;rw[Ac9,Gv] <;>
 (by_cases h:Cy D s s≠0
  ·rw[if_pos h,if_pos h]
  ·rw[if_neg h,if_neg h] <;> (cases lookD D.now s <;> rfl))
theorem S0(D:Aj)(s t:AhU):E6 D s t=DE D [t] s:=by
 unfold E6 DE;rw[show [t]++ [s]= [t,s]from rfl,N7] <;>
 (by_cases h:Cy D s t≠0
  ·rw[if_pos h,if_pos h]
  ·rw[if_neg h,if_neg h] <;> (cases lookD D.now s <;> rfl))
theorem Jh{D:Aj}{ms:List AhU}{s:AhU}{c:Nat}(h:DE D ms s = .error c):c≠0:=by
 unfold DE at h;split at h
 ·rename_i hn;cases h;exact hn
 ·split at h
  ·cases h
  ·cases h;decide
theorem Jj{D:Aj}{ms:List AhU}{s:AhU}{k:Nat}(h:DE D ms s = .ok k):D.down=false/\lookD D.now s=some k/\∀t∈ms,Bn t=true:=by
 unfold DE at h;split at h
 ·cases h
 ·rename_i hn
  have hn:readyL D (ms++ [s])=0:=Classical.not_not.1 hn;split at h
  ·rename_i k' hk
   cases h;unfold readyL at hn;split at hn
   ·cases hn
   ·rename_i hd
    split at hn
    ·rename_i ha
     exact⟨Agl.2 hd,hk,fun t ht=>Ads.1 ha t (List.mem_append_left _ ht)⟩
    ·cases hn
  ·cases h
theorem UM(w0 w:Acs)(a:Ext w0 w)(H:Dk)(D:Aj)(hS:DkS w0.heap.size w H D)(bf bd k:Nat)(hbf:w.heap[bf]? =some (.cells ([PQ (H.F k) 0]).toArray 112 (0,0)))(hbd:w.heap[bd]? =some (.cells ([PQ H.g 0]).toArray 25 (0,0)))(hk:k<D.files.length):
  ∀w1 D1,DkT w0.heap.size w H D w1 H D1->D1=(BY D).1->Calls Acu 96 #[PQ bf 0,PQ bd 0] w1 fun e w' =>e = .returned (.tuple #[])/\∃H',DkT w0.heap.size w1 H D1 w' H' { D1 with files:=D1.files.set k ((Ap D1 k).1,(Ap D1 k).1.length),kept:=D1.now,acts:= [] } :=by
 intro w1 D1 hT hD1;have hf:=Ej D;rw[<-hD1]at hf;have b:Ext w0 w1:=Chg.ext a hT.chg (fun i q=>(hS.foot q).2.2);exact(Yq w0 w1 b H D1 hT.st bf bd k (AbY hT hS hbf (by decide) (by decide) (by decide) (by decide)) (AbY hT hS hbd (by decide) (by decide) (by decide) (by decide)) (by rw[hf.1];exact hk)).mono fun e w' ⟨H',q1,q2⟩=>⟨q1,H',q2⟩
theorem UN(w0 w:Acs)(a:Ext w0 w)(H:Dk)(D:Aj)(hS:DkS w0.heap.size w H D)(bd bs bf bn k:Nat)(s t:AhU)(hbd:w.heap[bd]? =some (.cells ([PQ H.g 0]).toArray 25 (0,0)))(hbs:w.heap[bs]? =some (.cells ([St s]).toArray 9 (0,0)))(hbf:w.heap[bf]? =some (.cells ([PQ (H.F k) 0]).toArray 112 (0,0)))(hbn:w.heap[bn]? =some (.cells ([St t]).toArray 9 (0,0))) 
  (hk:k<D.files.length) (hs:Bn s=true) (ht:Bn t=true) (hn:D.acts.length<1099511627776):
  ∀w1 D1,DkT w0.heap.size w H D w1 H D1->D1=(BY D).1->Calls Acu 126 #[PQ bd 0,PQ bs 0,PQ bf 0,PQ bn 0] w1 fun e w' =>e = .returned (.tuple #[])/\∃H',DkT w0.heap.size w1 H D1 w' H' (turnedD D1 ⟨s,t,k⟩):=by
 intro w1 D1 hT hD1;have hf:=Ej D;rw[<-hD1]at hf;have b:Ext w0 w1:=Chg.ext a hT.chg (fun i q=>(hS.foot q).2.2);exact(Yn w0 w1 b H D1 hT.st bd bs bf bn k s t (AbY hT hS hbd (by decide) (by decide) (by decide) (by decide)) (AbY hT hS hbs (by decide) (by decide) (by decide) (by decide)) (AbY hT hS hbf (by decide) (by decide) (by decide) (by decide)) (AbY hT hS hbn (by decide) (by decide) (by decide) (by decide)) (by rw[hf.1];exact hk) hs ht (by rw[hf.2.2.2.1];exact hn)).mono fun e w' ⟨H',q1,q2⟩=>⟨q1,H',q2⟩
theorem UO(w0 w:Acs)(a:Ext w0 w)(H:Dk)(D:Aj)(hS:DkS w0.heap.size w H D)(bd bs k:Nat)(s:AhU)(hbd:w.heap[bd]? =some (.cells ([PQ H.g 0]).toArray 25 (0,0)))(hbs:w.heap[bs]? =some (.cells ([St s]).toArray 9 (0,0))) 
  (hk:k<D.files.length) (hs:Bn s=true) (hn:D.acts.length<1099511627776):
  ∀w1 D1,DkT w0.heap.size w H D w1 H D1->D1=(BY D).1->Calls Acu 119 #[PQ bd 0,PQ bs 0] w1 fun e w' =>e = .returned (.tuple #[])/\∃H',DkT w0.heap.size w1 H D1 w' H' (turnedD D1 ⟨s,[],k⟩):=by
 intro w1 D1 hT hD1;have hf:=Ej D;rw[<-hD1]at hf;have b:Ext w0 w1:=Chg.ext a hT.chg (fun i q=>(hS.foot q).2.2);exact(Yo w0 w1 b H D1 hT.st bd bs k s (AbY hT hS hbd (by decide) (by decide) (by decide) (by decide)) (AbY hT hS hbs (by decide) (by decide) (by decide) (by decide)) (by rw[hf.1];exact hk) hs (by rw[hf.2.2.2.1];exact hn)).mono fun e w' ⟨H',q1,q2⟩=>⟨q1,H',q2⟩
theorem K7:AC Acu 82 0 0:=fun b o w=>by simp[go_sem]
theorem N8:Plain Acu 62:=fun _ _=>by kernel_rfl
theorem K8:AC Acu 82 4 4:=fun b o w=>by simp[go_sem]
theorem HV:Plain Acu 92:=fun _ _=>by kernel_rfl
theorem Fi:Plain Acu 73:=fun _ _=>by kernel_rfl
theorem S1(w0 w:Acs)(h:Ext w0 w)(H:Dk)(D:Aj)(hS:DkS w0.heap.size w H D)(s:AhU)(vb:Acr)(b:AhU)(hrb:RB w vb b)(hoff:b= []\/∀i,vb.ownBlock=some i->¬BR H D.files.length i)(hbl:b.length<1099511627776)(hL:Eo D):
  Calls Acu 44 #[PQ H.g 0,St s,vb] w fun e w' =>∃H',e = .returned (NI (BU D s b).2)/\DkT w0.heap.size w H D w' H' (BU D s b).1:=by
 have hb:=hS.blk;have hgl:=(bl hb);have hgl0:=hS.lo.1;have hsz0:=h.size;have ag:=hS;have hgr:=Ac0 w (some H.g);refine gG (args:= [PQ H.g 0,St (s),vb]) Tryz.func44 rfl 35 rfl rfl ?_;have hE:=AbE w;refine gS (ZD (vr (PQ H.g 0) rfl) rfl fun o w3 ak al u bk=> ?_);have bm:=hE.size;have bn:=h.size;have hgr:w.grownBy w3 (some H.g):=Aa hgr u.grown (fun _ e=>by cases e);have c:=al;clear al;have bo:o<w3.heap.size:=by omega
 refine gS (ZD (vr (St (s)) rfl) rfl fun p am x an l bp=> ?_);have hE:=hE.trans u;have h:=h.trans u;have bq:=hE.size;have br:=h.size;have hgr:w.grownBy am (some H.g):=Aa hgr l.grown (fun _ e=>by cases e);have f:=an;clear an;have bs:p<am.heap.size:=by omega
 have hE:=hE.trans l;refine gS (ZD (vr vb rfl) (Aco (hrb.keep hE)).1 fun t ao m ap j bt=> ?_);have h:=h.trans l;have bu:=hE.size;have bv:=h.size;have hgr:w.grownBy ao (some H.g):=Aa hgr j.grown (fun _ e=>by cases e);have k:=ap;clear ap;have bw:t<ao.heap.size:=by omega
 have hq0:=hL.quota;have hq1:=hL.used;by_cases y:Cy D s s≠0
 ·have hV:BU D s b=(D,Cy D s s):=if_pos y;have aq:=AO (bl c) x;have c:=eb l c;have ar:=AO (bl c) m;have c:=eb j c;have au:=AO (bl f) m;have f:=eb j f;refine gS (YW UE rfl rfl (Ac c rfl) (gS (YW EI rfl rfl (Ac f rfl) (gS (ZN (a:=s) (enc:=FF) (vr (St (s)) rfl) rfl (fun w=>IT _ w) fun a1 a2 a3 av=> ?_)))));have hgr:w.grownBy a2 (some H.g):=Aa hgr av.grown (fun _ e=>by cases e);have hZ1:=j.trans av;have hE:=hE.trans hZ1;refine gS (Y2 J7 rfl rfl ((D9 w0.heap.size _ H D (hS.keep hE) a1 [s] a3 (by simp)).mono ?_));rintro e a4 ⟨rfl,aw⟩;refine⟨_,rfl,?_⟩;have hgr:w.grownBy a4 (some H.g):=Aa hgr aw.grown (fun _ e=>by cases e);refine gS (YX (a:=(readyL D [s]:Nat)) (b:=(0:Nat)) rfl rfl (Ba _ _ _ _) (kT (by rw[Gv];omega) (cT rfl (AD rfl (vr (NI (readyL D [s])) rfl) ?_))));have hE:=hE.trans aw;exact⟨H,by rw[hV,Gv],by rw[hV];exact Ab6 ag hE⟩
 have a5:Cy D s s=0:=Classical.not_not.1 y;obtain⟨hdn,hs,-⟩:=UB a5;by_cases hq:D.quota<usedD D+b.length
 ·have hV:BU D s b=({ D with refused:=D.refused+1 },8):=(if_neg y).trans (if_pos hq);have aq:=AO (bl c) x;have c:=eb l c;have ar:=AO (bl c) m;have c:=eb j c;have au:=AO (bl f) m;have f:=eb j f;refine gS (YW UE rfl rfl (Ac c rfl) (gS (YW EI rfl rfl (Ac f rfl) (gS (ZN (a:=s) (enc:=FF) (vr (St (s)) rfl) rfl (fun w=>IT _ w) fun a6 a7 ax ah=> ?_)))));have hgr:w.grownBy a7 (some H.g):=Aa hgr ah.grown (fun _ e=>by cases e);have hZ2:=j.trans ah;have hE:=hE.trans hZ2;refine gS (Y2 J7 rfl rfl ((D9 w0.heap.size _ H D (hS.keep hE) a6 [s] ax (by simp)).mono ?_));rintro e a8 ⟨rfl,z⟩;refine⟨_,rfl,?_⟩;have hgr:w.grownBy a8 (some H.g):=Aa hgr z.grown (fun _ e=>by cases e);refine gS (YX (a:=(readyL D [s]:Nat)) (b:=(0:Nat)) rfl rfl (Ba _ _ _ _) (kF (by rw[Gv];omega) (cF rfl (FS [0,1,2,3,4,5,6,7,8,9] [7] [1,3,4] [0,2,5] fun ay aa=> ?_))));have hgr:w.grownBy ay (some H.g):=Aa hgr aa.grown (fun _ e=>by cases e);have ab:=AbE ay;have a9:=AO (bl hb) ak;have hb:=eb u hb;have ba:=AO (bl hb) x;have hb:=eb l hb;have bb:=AO (bl hb) m;have hZ3:=(hZ2.trans z).trans aa;have hb:=eb hZ3 hb;have hZ4:=(ah.trans z).trans aa;have c:=eb hZ4 c;have k:=eb hZ4 k;have hZ5:=z.trans aa;have hE:=hE.trans hZ5;refine Gf ab ?_;refine yf (fun _ ⟨hZ,_⟩=>YW G1 rfl rfl (Ac (eb hZ k) rfl) zz) (yp (Zk G1 (Zn (hrb.keep hE) rfl) zz) (yf (fun _ ⟨hZ,_⟩=>YW UE rfl rfl (Ac (eb hZ c) rfl) zz) (yp (AbF rfl zz) (yp (AbD K7 rfl zz) (yf (fun _ ⟨hZ,_⟩=>YW NB rfl rfl (Ac (eb hZ hb) rfl) zz) (ys (YW UE rfl rfl (Ac c rfl) zz) (yE (YZ N8 rfl ((LB w0.heap.size _ H D (hS.keep hE) hL.used).mono ?_)))))))));rintro e bc ⟨rfl,ac⟩;refine⟨_,rfl,?_⟩;have hgr:w.grownBy bc (some H.g):=Aa hgr ac.grown (fun _ e=>by cases e);have ab:=ab.trans ac;refine⟨ab,?_⟩;have hb:=eb ac hb;have c:=eb ac c;refine ys (Y4 (xv:= .int .i64 (((D.quota:Nat):Int))) (yv:= .int .i64 (((usedD D:Nat):Int))) rfl rfl rfl (NM _ (((D.quota:Nat):Int)) (((usedD D:Nat):Int)) (by omega)) zz) (ys (YX rfl rfl (VO _ .i64 ((b.length:Nat):Int) (((((D.quota:Nat):Int))-(((usedD D:Nat):Int))):Int)) zz) (kT (by omega) (cT rfl (gS (YW UE rfl rfl (Ac c rfl) (gS (AbF rfl (gS (AbD K8 rfl (gS (YW NB rfl rfl (Ac hb rfl) (gS (Y4 (xv:=NI D.refused) (yv:=NI 1) rfl rfl rfl (AG _ _ _ (by have:=hL.refused;omega)) (gS (AbF rfl (gS (AbD K8 rfl (gS (Y1 (i:=4) (v:=NI ((D.refused)+(1))) rfl rfl hb (AcF rfl) Dw rfl rfl fun bd az be bx=> ?_)))))))))))))))))));have hgr:w.grownBy bd (some H.g):=Aa hgr be (fun _ e=> .inl e);clear hE;clear ax;clear hb;have hb:=az;clear az;have bz:=bl hb;refine AD rfl (vr (NI 8) rfl) ?_;exact⟨H,by rw[hV],by rw[hV];exact ag.setBlkT hgr hb⟩
 have hV:BU D s b=Ds D (fun d=>Bg d s b):=by unfold Ds;exact(if_neg y).trans (if_neg hq)
 have aq:=AO (bl c) x;have c:=eb l c;have ar:=AO (bl c) m;have c:=eb j c;have au:=AO (bl f) m;have f:=eb j f;refine gS (YW UE rfl rfl (Ac c rfl) (gS (YW EI rfl rfl (Ac f rfl) (gS (ZN (a:=s) (enc:=FF) (vr (St (s)) rfl) rfl (fun w=>IT _ w) fun bf bg bh ai=> ?_)))));have hgr:w.grownBy bg (some H.g):=Aa hgr ai.grown (fun _ e=>by cases e);have hZ6:=j.trans ai;have hE:=hE.trans hZ6;refine gS (Y2 J7 rfl rfl ((D9 w0.heap.size _ H D (hS.keep hE) bf [s] bh (by simp)).mono ?_));rintro e bi ⟨rfl,ad⟩;refine⟨_,rfl,?_⟩;have hgr:w.grownBy bi (some H.g):=Aa hgr ad.grown (fun _ e=>by cases e);refine gS (YX (a:=(readyL D [s]:Nat)) (b:=(0:Nat)) rfl rfl (Ba _ _ _ _) (kF (by rw[Gv];omega) (cF rfl (FS [0,1,2,3,4,5,6,7,8,9] [7] [1,3,4] [0,2,5] fun a0 ae=> ?_))));have hgr:w.grownBy a0 (some H.g):=Aa hgr ae.grown (fun _ e=>by cases e);have af:=AbE a0;have a9:=AO (bl hb) ak;have hb:=eb u hb;have ba:=AO (bl hb) x;have hb:=eb l hb;have bb:=AO (bl hb) m;have hZ7:=(hZ6.trans ad).trans ae;have hb:=eb hZ7 hb;have hZ8:=(ai.trans ad).trans ae;have c:=eb hZ8 c;have k:=eb hZ8 k;have hZ9:=ad.trans ae;have hE:=hE.trans hZ9;refine Gf af ?_;refine yf (fun _ ⟨hZ,_⟩=>YW G1 rfl rfl (Ac (eb hZ k) rfl) zz) (yp (Zk G1 (Zn (hrb.keep hE) rfl) zz) (yf (fun _ ⟨hZ,_⟩=>YW UE rfl rfl (Ac (eb hZ c) rfl) zz) (yp (AbF rfl zz) (yp (AbD K7 rfl zz) (yf (fun _ ⟨hZ,_⟩=>YW NB rfl rfl (Ac (eb hZ hb) rfl) zz) (ys (YW UE rfl rfl (Ac c rfl) zz) (yE (YZ N8 rfl ((LB w0.heap.size _ H D (hS.keep hE) hL.used).mono ?_)))))))));rintro e bj ⟨rfl,n⟩;refine⟨_,rfl,?_⟩;have hgr:w.grownBy bj (some H.g):=Aa hgr n.grown (fun _ e=>by cases e);have af:=af.trans n;refine⟨af,?_⟩;have c:=eb n c;refine ys (Y4 (xv:= .int .i64 (((D.quota:Nat):Int))) (yv:= .int .i64 (((usedD D:Nat):Int))) rfl rfl rfl (NM _ (((D.quota:Nat):Int)) (((usedD D:Nat):Int)) (by omega)) zz) (ys (YX rfl rfl (VO _ .i64 ((b.length:Nat):Int) (((((D.quota:Nat):Int))-(((usedD D:Nat):Int))):Int)) zz) (kF (by omega) (cF rfl (gS (YW UE rfl rfl (Ac c rfl) (gS (Zl (vs:= #[PQ o 0,PQ p 0,PQ t 0]) (by simp only[AcJ,AcL,AcR];exact congrArg Ac4 (PZ (vr (PQ o 0) rfl) (vr (PQ p 0) rfl) (vr (PQ t 0) rfl))) ?_)))))));have hE:=hE.trans n;have hEc:=hE;have hSc:=(hS.keep hE);have hTc:=Ab6 ag hEc;have hZ10:=hZ7.trans n;have h:=h.trans hZ10;have hE0c:=h;have f:=eb (hZ8.trans n) f;have k:=eb n k;refine gS (Y2 HV rfl rfl ((K6 w0 _ hE0c H D hSc hdn hL.arm (.func (.func 93) #[] #[PQ o 0,PQ p 0,PQ t 0]) 93 #[PQ o 0,PQ p 0,PQ t 0] (fun _ _=>by kernel_rfl) rfl (fun d=>Bg d s b) (WD w0 _ hE0c H D hSc o p t s b vb c f k (hrb.keep hE) (hoff.imp id fun q i hi r=>q i hi r) hs hbl hL.files hL.acts)).mono ?_));rintro e b0 ⟨H3,rfl,hT2⟩;refine⟨_,rfl,?_⟩;have hT3:=hTc.trans hT2;refine AD rfl (vr (NI ((Ds D (fun d=>Bg d s b)).2)) rfl) ?_;exact⟨H3,by rw[hV],by rw[hV];exact hT3⟩
theorem WE(w0 w:Acs)(c:Ext w0 w)(H:Dk)(D:Aj)(hS:DkS w0.heap.size w H D)(s:AhU)(hL:Eo D):
  Calls Acu 46 #[PQ H.g 0,St s] w fun e w' =>∃H',e = .returned (NI (Cf D s).2)/\DkT w0.heap.size w H D w' H' (Cf D s).1:=by
 have hb:=hS.blk;have hgl:=(bl hb);have hgl0:=hS.lo.1;have hsz0:=c.size;have y:=hS;have hgr:=Ac0 w (some H.g);refine gG (args:= [PQ H.g 0,St (s)]) Tryz.func46 rfl 19 rfl rfl ?_;have hE:=AbE w;refine gS (ZD (vr (PQ H.g 0) rfl) rfl fun f z ar aa n au=> ?_);have j:=AbE w;have av:=hE.size;have aw:=c.size;have hgr:w.grownBy z (some H.g):=Aa hgr n.grown (fun _ e=>by cases e);have l:=aa;clear aa;have ax:f<z.heap.size:=by omega
 rcases hV0:DE D [] s with ce | k
 ·have hV:Cf D s=(D,ce):=by unfold Cf;rw[Hm,hV0]
  have hce:=Jh hV0;have hE:=hE.trans n;refine gS (YW UE rfl rfl (Ac l rfl) (gS (Y9 Fi rfl rfl rfl (((show Calls _ _ _ _ (fun e w2=>e = .returned (.tuple #[.pointer none,NI ce])/\Ext _ w2)from by have h:=FG w0.heap.size _ H D (hS.keep hE) s ((AcI none 0 0)) [] (.inl ⟨rfl,rfl⟩) (by simp);rw[hV0]at h;exact h)).mono ?_))));rintro e ak ⟨rfl,x⟩;refine⟨_,rfl,?_⟩;have hgr:w.grownBy ak (some H.g):=Aa hgr x.grown (fun _ e=>by cases e);refine gS (AbG (vs:= [.pointer none,NI ce]) rfl rfl (gS (AbG (vs:= [.pointer none,NI ce]) rfl rfl (gS (AbM SZ fun al ab ay ac ad az=> ?_)))));have hE:=hE.trans x;have hZ1:=n.trans x;have c:=c.trans hZ1;have j:=j.trans hZ1;have a0:=hE.size;have a1:=c.size;have am:=j.size;have hgr:w.grownBy ab (some H.g):=Aa hgr ad.grown (fun _ e=>by cases e);have q:=ac;clear ac;have a2:al<ab.heap.size:=by omega
  refine gS (Y1 (i:=0) (v:= .pointer none) rfl rfl q (AcF rfl) QT rfl rfl fun an ae af a3=> ?_);have hgr:w.grownBy an (some H.g):=Aa hgr af (fun _ e=> .inr (by cases e;omega));clear q;have q:=ae;clear ae;have a4:=bl q;refine gS (YX (a:=(ce:Nat)) (b:=(0:Nat)) rfl rfl (Ba _ _ _ _) (kT (by omega) (cT rfl (AD rfl (vr (NI ce) rfl) ?_))));have hE:=hE.trans ad;have hE:=Ad hE af (Acw am (by omega));exact⟨H,by rw[hV],by rw[hV];exact Ab6 y hE⟩
 have hV:Cf D s=Ds D (fun d=> { d with files:=d.files.set k ((Ap d k).1,(Ap d k).1.length),kept:=d.now,acts:= [] }):=by unfold Cf;rw[Hm,hV0]
 obtain⟨hdn,hlk,hms⟩:=Jj hV0;have hkl:=hS.ok.now.look hlk;have hE:=hE.trans n;refine gS (YW UE rfl rfl (Ac l rfl) (gS (Y9 Fi rfl rfl rfl (((show Calls _ _ _ _ (fun e w2=>e = .returned (.tuple #[.pointer (some ⟨(H.F k),0,none⟩),NI 0])/\Ext _ w2)from by have h:=FG w0.heap.size _ H D (hS.keep hE) s ((AcI none 0 0)) [] (.inl ⟨rfl,rfl⟩) (by simp);rw[hV0]at h;exact h)).mono ?_))));rintro e ag ⟨rfl,r⟩;refine⟨_,rfl,?_⟩;have hgr:w.grownBy ag (some H.g):=Aa hgr r.grown (fun _ e=>by cases e);refine gS (AbG (vs:= [.pointer (some ⟨(H.F k),0,none⟩),NI 0]) rfl rfl (gS (AbG (vs:= [.pointer (some ⟨(H.F k),0,none⟩),NI 0]) rfl rfl (gS (AbM SZ fun m ah a5 ai t a6=> ?_)))));have o:=AbE ag;have hE:=hE.trans r;have hZ2:=n.trans r;have c:=c.trans hZ2;have j:=j.trans hZ2;have a7:=hE.size;have ao:=c.size;have ap:=j.size;have hgr:w.grownBy ah (some H.g):=Aa hgr t.grown (fun _ e=>by cases e);have p:=ai;clear ai;have a8:m<ah.heap.size:=by omega
 refine gS (Y1 (i:=0) (v:= .pointer (some ⟨(H.F k),0,none⟩)) rfl rfl p (AcF rfl) QT rfl rfl fun aq aj u a9=> ?_);have hgr:w.grownBy aq (some H.g):=Aa hgr u (fun _ e=> .inr (by cases e;omega));clear p;have p:=aj;clear aj;have ba:=bl p;have o:=o.trans t;have o:=Ad o u (Acw (Acy _) (by omega));have l:=eb (r.trans o) l;refine gS (YX (a:=(0:Nat)) (b:=(0:Nat)) rfl rfl (Ba _ _ _ _) (kF (by decide) (cF rfl (gS (YW UE rfl rfl (Ac l rfl) (gS (Zl (vs:= #[PQ m 0,PQ f 0]) (by simp only[AcJ,AcL,AcR];exact congrArg Ac4 (B4 (vr (PQ m 0) rfl) (vr (PQ f 0) rfl))) ?_)))))));have hE:=hE.trans t;have hE:=Ad hE u (Acw ap (by omega));have hEc:=hE;have hSc:=(hS.keep hE);have hTc:=Ab6 y hEc;have c:=c.trans t;have c:=Ad c u (Acw ao (by omega));have hE0c:=c;refine gS (Y2 HV rfl rfl ((K6 w0 _ hE0c H D hSc hdn hL.arm (.func (.func 96) #[] #[PQ m 0,PQ f 0]) 96 #[PQ m 0,PQ f 0] (fun _ _=>by kernel_rfl) rfl (fun d=> { d with files:=d.files.set k ((Ap d k).1,(Ap d k).1.length),kept:=d.now,acts:= [] }) (UM w0 _ hE0c H D hSc m f k p l hkl.1)).mono ?_));rintro e bb ⟨H3,rfl,hT2⟩;refine⟨_,rfl,?_⟩;have hT3:=hTc.trans hT2;refine AD rfl (vr (NI ((Ds D (fun d=> { d with files:=d.files.set k ((Ap d k).1,(Ap d k).1.length),kept:=d.now,acts:= [] })).2)) rfl) ?_;exact⟨H3,by rw[hV],by rw[hV];exact hT3⟩
theorem WF(w0 w:Acs)(c:Ext w0 w)(H:Dk)(D:Aj)(hS:DkS w0.heap.size w H D)(s t:AhU)(hL:Eo D):
  Calls Acu 81 #[PQ H.g 0,St s,St t] w fun e w' =>∃H',e = .returned (NI (De D s t).2)/\DkT w0.heap.size w H D w' H' (De D s t).1:=by
 have hb:=hS.blk;have hgl:=(bl hb);have hgl0:=hS.lo.1;have hsz0:=c.size;have ah:=hS;have hgr:=Ac0 w (some H.g);refine gG (args:= [PQ H.g 0,St (s),St (t)]) Tryz.func81 rfl 23 rfl rfl ?_;have hE:=AbE w;refine gS (ZD (vr (PQ H.g 0) rfl) rfl fun o w3 bf aj ab bg=> ?_);have j:=AbE w;have bh:=hE.size;have bi:=c.size;have hgr:w.grownBy w3 (some H.g):=Aa hgr ab.grown (fun _ e=>by cases e);have f:=aj;clear aj;have bj:o<w3.heap.size:=by omega
 refine gS (ZD (vr (St (s)) rfl) rfl fun p ak al am q bk=> ?_);have hE:=hE.trans ab;have c:=c.trans ab;have j:=j.trans ab;have bm:=hE.size;have bn:=c.size;have bo:=j.size;have hgr:w.grownBy ak (some H.g):=Aa hgr q.grown (fun _ e=>by cases e);have l:=am;clear am;have bp:p<ak.heap.size:=by omega
 refine gS (ZD (vr (St (t)) rfl) rfl fun r an ac ao m bq=> ?_);have hE:=hE.trans q;have c:=c.trans q;have j:=j.trans q;have br:=hE.size;have bs:=c.size;have bt:=j.size;have hgr:w.grownBy an (some H.g):=Aa hgr m.grown (fun _ e=>by cases e);have y:=ao;clear ao;have bu:r<an.heap.size:=by omega
 rcases hV0:DE D [t] s with ce | k
 ·have hV:De D s t=(D,ce):=by unfold De;rw[S0,hV0]
  have hce:=Jh hV0;have a1:=AO (bl f) al;have f:=eb q f;have a2:=AO (bl f) ac;have f:=eb m f;have a3:=AO (bl l) ac;have l:=eb m l;refine gS (YW UE rfl rfl (Ac f rfl) (gS (YW EI rfl rfl (Ac l rfl) (gS (YW EI rfl rfl (Ac y rfl) (gS (AaD (a:=t) (enc:=FF) (vr (St (t)) rfl) rfl (fun w=>IT _ w) fun a4 a5 hF57 ap=> ?_)))))));have hgr:w.grownBy a5 (some H.g):=Aa hgr ap.grown (fun _ e=>by cases e);have hFl:=hF57;clear hF57;have hZ1:=m.trans ap;have hE:=hE.trans hZ1;refine gS (Y9 Fi rfl rfl rfl (((show Calls _ _ _ _ (fun e w2=>e = .returned (.tuple #[.pointer none,NI ce])/\Ext _ w2)from by have h:=FG w0.heap.size _ H D (hS.keep hE) s (.slice (some ⟨a4,0,none⟩) 1 1) [t] hFl (by simp);rw[hV0]at h;exact h)).mono ?_));rintro e a6 ⟨rfl,ag⟩;refine⟨_,rfl,?_⟩;have hgr:w.grownBy a6 (some H.g):=Aa hgr ag.grown (fun _ e=>by cases e);refine gS (AbG (vs:= [.pointer none,NI ce]) rfl rfl (gS (AbG (vs:= [.pointer none,NI ce]) rfl rfl (gS (AbM SZ fun a7 aq bv ar au bw=> ?_)))));have hE:=hE.trans ag;have hZ2:=hZ1.trans ag;have c:=c.trans hZ2;have j:=j.trans hZ2;have bx:=hE.size;have bz:=c.size;have a8:=j.size;have hgr:w.grownBy aq (some H.g):=Aa hgr au.grown (fun _ e=>by cases e);have ad:=ar;clear ar;have b0:a7<aq.heap.size:=by omega
  refine gS (Y1 (i:=0) (v:= .pointer none) rfl rfl ad (AcF rfl) QT rfl rfl fun a9 av aw b1=> ?_);have hgr:w.grownBy a9 (some H.g):=Aa hgr aw (fun _ e=> .inr (by cases e;omega));clear ad;have ad:=av;clear av;have b2:=bl ad;refine gS (YX (a:=(ce:Nat)) (b:=(0:Nat)) rfl rfl (Ba _ _ _ _) (kT (by omega) (cT rfl (AD rfl (vr (NI ce) rfl) ?_))));have hE:=hE.trans au;have hE:=Ad hE aw (Acw a8 (by omega));exact⟨H,by rw[hV],by rw[hV];exact Ab6 ah hE⟩
 have hV:De D s t=Ds D (fun d=>turnedD d ⟨s,t,k⟩):=by unfold De;rw[S0,hV0]
 obtain⟨hdn,hlk,hms⟩:=Jj hV0;have hkl:=hS.ok.now.look hlk;have a1:=AO (bl f) al;have f:=eb q f;have a2:=AO (bl f) ac;have f:=eb m f;have a3:=AO (bl l) ac;have l:=eb m l;refine gS (YW UE rfl rfl (Ac f rfl) (gS (YW EI rfl rfl (Ac l rfl) (gS (YW EI rfl rfl (Ac y rfl) (gS (AaD (a:=t) (enc:=FF) (vr (St (t)) rfl) rfl (fun w=>IT _ w) fun ba bb hF97 z=> ?_)))))));have hgr:w.grownBy bb (some H.g):=Aa hgr z.grown (fun _ e=>by cases e);have hFl:=hF97;clear hF97;have hZ3:=m.trans z;have hE:=hE.trans hZ3;refine gS (Y9 Fi rfl rfl rfl (((show Calls _ _ _ _ (fun e w2=>e = .returned (.tuple #[.pointer (some ⟨(H.F k),0,none⟩),NI 0])/\Ext _ w2)from by have h:=FG w0.heap.size _ H D (hS.keep hE) s (.slice (some ⟨ba,0,none⟩) 1 1) [t] hFl (by simp);rw[hV0]at h;exact h)).mono ?_));rintro e ax ⟨rfl,u⟩;refine⟨_,rfl,?_⟩;have hgr:w.grownBy ax (some H.g):=Aa hgr u.grown (fun _ e=>by cases e);refine gS (AbG (vs:= [.pointer (some ⟨(H.F k),0,none⟩),NI 0]) rfl rfl (gS (AbG (vs:= [.pointer (some ⟨(H.F k),0,none⟩),NI 0]) rfl rfl (gS (AbM SZ fun x ay b3 az ae b4=> ?_)))));have n:=AbE ax;have hE:=hE.trans u;have hZ4:=hZ3.trans u;have c:=c.trans hZ4;have j:=j.trans hZ4;have b5:=hE.size;have bc:=c.size;have bd:=j.size;have hgr:w.grownBy ay (some H.g):=Aa hgr ae.grown (fun _ e=>by cases e);have aa:=az;clear az;have b6:x<ay.heap.size:=by omega
 refine gS (Y1 (i:=0) (v:= .pointer (some ⟨(H.F k),0,none⟩)) rfl rfl aa (AcF rfl) QT rfl rfl fun be a0 af b7=> ?_);have hgr:w.grownBy be (some H.g):=Aa hgr af (fun _ e=> .inr (by cases e;omega));clear aa;have aa:=a0;clear a0;have b8:=bl aa;have n:=n.trans ae;have n:=Ad n af (Acw (Acy _) (by omega));have f:=eb ((z.trans u).trans n) f;refine gS (YX (a:=(0:Nat)) (b:=(0:Nat)) rfl rfl (Ba _ _ _ _) (kF (by decide) (cF rfl (gS (YW UE rfl rfl (Ac f rfl) (gS (Zl (vs:= #[PQ o 0,PQ p 0,PQ x 0,PQ r 0]) (by simp only[AcJ,AcL,AcR];exact congrArg Ac4 (X5 (vr (PQ o 0) rfl) (vr (PQ p 0) rfl) (vr (PQ x 0) rfl) (vr (PQ r 0) rfl))) ?_)))))));have hE:=hE.trans ae;have hE:=Ad hE af (Acw bd (by omega));have hEc:=hE;have hSc:=(hS.keep hE);have hTc:=Ab6 ah hEc;have c:=c.trans ae;have c:=Ad c af (Acw bc (by omega));have hE0c:=c;have l:=eb ((z.trans u).trans n) l;have y:=eb ((z.trans u).trans n) y;refine gS (Y2 HV rfl rfl ((K6 w0 _ hE0c H D hSc hdn hL.arm (.func (.func 126) #[] #[PQ o 0,PQ p 0,PQ x 0,PQ r 0]) 126 #[PQ o 0,PQ p 0,PQ x 0,PQ r 0] (fun _ _=>by kernel_rfl) rfl (fun d=>turnedD d ⟨s,t,k⟩) (UN w0 _ hE0c H D hSc o p x r k s t f l aa y hkl.1 hkl.2 (hms t (by simp)) hL.acts)).mono ?_));rintro e b9 ⟨H3,rfl,hT2⟩;refine⟨_,rfl,?_⟩;have hT3:=hTc.trans hT2;refine AD rfl (vr (NI ((Ds D (fun d=>turnedD d ⟨s,t,k⟩)).2)) rfl) ?_;exact⟨H3,by rw[hV],by rw[hV];exact hT3⟩
theorem WG(w0 w:Acs)(f:Ext w0 w)(H:Dk)(D:Aj)(hS:DkS w0.heap.size w H D)(s:AhU)(hL:Eo D):
  Calls Acu 72 #[PQ H.g 0,St s] w fun e w' =>∃H',e = .returned (NI (BF D s).2)/\DkT w0.heap.size w H D w' H' (BF D s).1:=by
 have hb:=hS.blk;have hgl:=(bl hb);have hgl0:=hS.lo.1;have hsz0:=f.size;have p:=hS;have hgr:=Ac0 w (some H.g);refine gG (args:= [PQ H.g 0,St (s)]) Tryz.func72 rfl 19 rfl rfl ?_;have hE:=AbE w;refine gS (ZD (vr (PQ H.g 0) rfl) rfl fun i q ab r o ac=> ?_);have ad:=hE.size;have ae:=f.size;have hgr:w.grownBy q (some H.g):=Aa hgr o.grown (fun _ e=>by cases e);have c:=r;clear r;have af:i<q.heap.size:=by omega
 refine gS (ZD (vr (St (s)) rfl) rfl fun j t u v l ag=> ?_);have hE:=hE.trans o;have f:=f.trans o;have ah:=hE.size;have ai:=f.size;have hgr:w.grownBy t (some H.g):=Aa hgr l.grown (fun _ e=>by cases e);have m:=v;clear v;have aj:j<t.heap.size:=by omega
 rcases hV0:DE D [] s with ce | k
 ·have hV:BF D s=(D,ce):=by unfold BF;rw[Hm,hV0]
  have hce:=Jh hV0;have y:=AO (bl c) u;have c:=eb l c;have hE:=hE.trans l;refine gS (YW UE rfl rfl (Ac c rfl) (gS (YW EI rfl rfl (Ac m rfl) (gS (Y9 Fi rfl rfl rfl (((show Calls _ _ _ _ (fun e w2=>e = .returned (.tuple #[.pointer none,NI ce])/\Ext _ w2)from by have h:=FG w0.heap.size _ H D (hS.keep hE) s ((AcI none 0 0)) [] (.inl ⟨rfl,rfl⟩) (by simp);rw[hV0]at h;exact h)).mono ?_))))));rintro e z ⟨rfl,x⟩;refine⟨_,rfl,?_⟩;have hgr:w.grownBy z (some H.g):=Aa hgr x.grown (fun _ e=>by cases e);refine gS (AbG (vs:= [.pointer none,NI ce]) rfl rfl (gS (AbG (vs:= [.pointer none,NI ce]) rfl rfl (gS (YX (a:=(ce:Nat)) (b:=(0:Nat)) rfl rfl (Ba _ _ _ _) (kT (by omega) (cT rfl (AD rfl (vr (NI ce) rfl) ?_))))))));have hE:=hE.trans x;exact⟨H,by rw[hV],by rw[hV];exact Ab6 p hE⟩
 have hV:BF D s=Ds D (fun d=>turnedD d ⟨s,[],k⟩):=by unfold BF;rw[Hm,hV0]
 obtain⟨hdn,hlk,hms⟩:=Jj hV0;have hkl:=hS.ok.now.look hlk;have y:=AO (bl c) u;have c:=eb l c;have hE:=hE.trans l;refine gS (YW UE rfl rfl (Ac c rfl) (gS (YW EI rfl rfl (Ac m rfl) (gS (Y9 Fi rfl rfl rfl (((show Calls _ _ _ _ (fun e w2=>e = .returned (.tuple #[.pointer (some ⟨(H.F k),0,none⟩),NI 0])/\Ext _ w2)from by have h:=FG w0.heap.size _ H D (hS.keep hE) s ((AcI none 0 0)) [] (.inl ⟨rfl,rfl⟩) (by simp);rw[hV0]at h;exact h)).mono ?_))))));rintro e aa ⟨rfl,n⟩;refine⟨_,rfl,?_⟩;have hgr:w.grownBy aa (some H.g):=Aa hgr n.grown (fun _ e=>by cases e);have c:=eb n c;refine gS (AbG (vs:= [.pointer (some ⟨(H.F k),0,none⟩),NI 0]) rfl rfl (gS (AbG (vs:= [.pointer (some ⟨(H.F k),0,none⟩),NI 0]) rfl rfl (gS (YX (a:=(0:Nat)) (b:=(0:Nat)) rfl rfl (Ba _ _ _ _) (kF (by decide) (cF rfl (gS (YW UE rfl rfl (Ac c rfl) (gS (Zl (vs:= #[PQ i 0,PQ j 0]) (by simp only[AcJ,AcL,AcR];exact congrArg Ac4 (B4 (vr (PQ i 0) rfl) (vr (PQ j 0) rfl))) ?_)))))))))));have hE:=hE.trans n;have hEc:=hE;have hSc:=(hS.keep hE);have hTc:=Ab6 p hEc;have hZ1:=l.trans n;have f:=f.trans hZ1;have hE0c:=f;have m:=eb n m;refine gS (Y2 HV rfl rfl ((K6 w0 _ hE0c H D hSc hdn hL.arm (.func (.func 119) #[] #[PQ i 0,PQ j 0]) 119 #[PQ i 0,PQ j 0] (fun _ _=>by kernel_rfl) rfl (fun d=>turnedD d ⟨s,[],k⟩) (UO w0 _ hE0c H D hSc i j k s c m hkl.1 hkl.2 hL.acts)).mono ?_));rintro e ak ⟨H3,rfl,hT2⟩;refine⟨_,rfl,?_⟩;have hT3:=hTc.trans hT2;refine AD rfl (vr (NI ((Ds D (fun d=>turnedD d ⟨s,[],k⟩)).2)) rfl) ?_;exact⟨H3,by rw[hV],by rw[hV];exact hT3⟩
def HW(D:Aj):Nat:=if D.down=true then 0 else usedD D
theorem S2(w:Acs):(Ac1 43 0 #[]).run Acu w = .ok (.slice (some ⟨w.heap.size,0,none⟩) 0 0) (w.alloc (.cells #[] 5)):=by kernel_rfl
theorem UP:Plain Acu 54:=fun _ _=>by kernel_rfl
theorem XL(w:Acs):
  Calls Acu 54 #[(.slice none 0 0)] w fun e w' =>∃v',e = .returned v' /\NewB 5 w w' v' []:=by
 refine gG (args:= [(.slice none 0 0)]) Tryz.func54 rfl 8 rfl rfl ?_;have hE:=AbE w;refine gS (ZJ G1 rfl (cT rfl (AD rfl (vr (AcI none 0 0) rfl) ?_)));exact⟨_,rfl,⟨Ad1 _ _ _ 1,hE.grown⟩⟩
theorem XM(w:Acs)(a:Addr)(c:Nat)(l:AhU)(hr:RB w (.slice (some a) l.length c) l)(hl:l.length<1099511627776):
  Calls Acu 54 #[(.slice (some a) l.length c)] w fun e w' =>∃v',e = .returned v' /\NewB 5 w w' v' l:=by
 refine gG (args:= [(.slice (some a) l.length c)]) Tryz.func54 rfl 8 rfl rfl ?_;have hE:=AbE w;refine gS (ZJ G1 rfl (cF rfl (gS (Abw S2 fun g j h=> ?_))));have b:=h.own;have hE:=hE.trans h.ext;refine gS (ZI _ _ w.heap.size (.int .u8 0) G1 P0 rfl G1 (([]:AhU)) (l) (G0 b (vr g rfl)) (Zn (hr.keep hE) (vr (.slice (some a) l.length c) rfl)) (by simp only[List.length_nil];omega) hE.size fun i k m f=> ?_);have f:Grew j k g i:=f;have hE:=Br hE f b (Acy _);clear b;refine AD rfl (vr i rfl) ?_;exact⟨_,rfl,⟨(show Aho _ _ _ _ _ _ _ from by simpa using m),hE.grown⟩⟩
theorem Mt(w:Acs)(v:Acr)(l:AhU)(h:RB w v l)(hl:l.length<1099511627776):
  Calls Acu 54 #[v] w fun e w' =>∃v',e = .returned v' /\NewB 5 w w' v' l:=by
 obtain⟨h1,ao,cap,rfl,h2,h3,h4,h5⟩:=id h;cases ao with
 | none=>
  have hl:=h4 rfl;have:l= []:=Adn hl.1;subst this;rw[show cap=0 from hl.2];exact XL w
 | some a=>exact XM w a cap l h hl
theorem WH(w0 w:Acs)(H:Dk)(D:Aj)(hS:DkS w0.heap.size w H D)(s:AhU)(hL:Eo D):
  Calls Acu 30 #[PQ H.g 0,St s] w fun e w' =>∃v,e = .returned (.tuple #[v,NI (Bk D s).2])/\w'.ownsRow w.heap.size 5 1 v (Bk D s).1.length (Lib.byteCells (Bk D s).1)/\Ext w w' :=by
 have hb:=hS.blk;have hgl:=(bl hb);have c:=hS;refine gG (args:= [PQ H.g 0,St (s)]) Tryz.func30 rfl 22 rfl rfl ?_;have hE:=AbE w;rcases hV0:DE D [] s with ce | k
 ·have hV:Bk D s=([],ce):=by unfold Bk;rw[Hm,hV0]
  have hce:=Jh hV0;refine gS (Y9 Fi rfl rfl rfl (((show Calls _ _ _ _ (fun e w2=>e = .returned (.tuple #[.pointer none,NI ce])/\Ext _ w2)from by have h:=FG w0.heap.size _ H D (hS.keep hE) s ((AcI none 0 0)) [] (.inl ⟨rfl,rfl⟩) (by simp);rw[hV0]at h;exact h)).mono ?_));rintro e n ⟨rfl,j⟩;refine⟨_,rfl,?_⟩;refine gS (AbG (vs:= [.pointer none,NI ce]) rfl rfl (gS (AbG (vs:= [.pointer none,NI ce]) rfl rfl (gS (YX (a:=(ce:Nat)) (b:=(0:Nat)) rfl rfl (Ba _ _ _ _) (kT (by omega) (cT rfl (DS rfl (vr (AcI none 0 0) rfl) (vr (NI ce) rfl) ?_))))))));have hE:=hE.trans j;exact⟨_,by rw[hV],by rw[hV];exact Ad1 _ _ _ 1,hE⟩
 have hV:Bk D s=((Ap D k).1,0):=by unfold Bk;rw[Hm,hV0]
 obtain⟨hdn,hlk,hms⟩:=Jj hV0;have hkl:=(c.ok.now.look hlk).1;have hfa:=c.files.at_ k hkl;have hfb:=hfa.blk;have hfr:RB w (H.V k) (D.files.getD k ([],0)).1:=Zc hfa.row;have hlb:=hL.files _ (Dx (d:=([],0)) hkl);refine gS (Y9 Fi rfl rfl rfl (((show Calls _ _ _ _ (fun e w2=>e = .returned (.tuple #[.pointer (some ⟨(H.F k),0,none⟩),NI 0])/\Ext _ w2)from by have h:=FG w0.heap.size _ H D (hS.keep hE) s ((AcI none 0 0)) [] (.inl ⟨rfl,rfl⟩) (by simp);rw[hV0]at h;exact h)).mono ?_));rintro e o ⟨rfl,f⟩;refine⟨_,rfl,?_⟩;have hE:=hE.trans f;refine gS (AbG (vs:= [.pointer (some ⟨(H.F k),0,none⟩),NI 0]) rfl rfl (gS (AbG (vs:= [.pointer (some ⟨(H.F k),0,none⟩),NI 0]) rfl rfl (gS (YX (a:=(0:Nat)) (b:=(0:Nat)) rfl rfl (Ba _ _ _ _) (kF (by decide) (cF rfl (gS (AbF rfl (gS (AbD O8 rfl (gS (YW G1 rfl rfl (Ac (eb hE hfb) rfl) (gS (YZ UP rfl ((Mt _ (H.V k) ((D.files.getD k ([],0)).1) (hfr.keep hE) (by omega)).mono ?_))))))))))))))));rintro e p ⟨l,rfl,i⟩;refine⟨_,rfl,?_⟩;have q:=hE.size;have hb:=eb f hb;have m:=i.own;refine DS rfl (vr l rfl) (vr (NI 0) rfl) ?_;have hE:=hE.trans i.ext;exact⟨_,by rw[hV],by rw[hV];exact AJ m (by omega),hE⟩
theorem UQ(base:Nat)(w:Acs)(H:Dk)(D:Aj)(hS:DkS base w H D)(hU:usedD D<4611686018427387904):
  Calls Acu 23 #[PQ H.g 0] w fun e w' =>e = .returned (NI (HW D))/\Ext w w' :=by
 have hb:=hS.blk;have hgl:=(bl hb);refine gG (args:= [PQ H.g 0]) Tryz.func23 rfl 8 rfl rfl ?_;have hE:=AbE w;cases hdn:D.down
 ·have hV:HW D=usedD D:=if_neg (by rw[hdn];decide);have hr:readyL D []=0:=Mo hdn rfl;refine gS (Y2 J7 rfl rfl ((D9 base _ H D (hS.keep hE) (AcI none 0 0) [] (RG.nil _ _ _) (by simp)).mono ?_));rintro e i ⟨rfl,c⟩;refine⟨_,rfl,?_⟩;have hE:=hE.trans c;refine gS (YX (a:=(readyL D []:Nat)) (b:=(0:Nat)) rfl rfl (Ba _ _ _ _) (kF (by omega) (cF rfl (gS (YZ N8 rfl ((LB base _ H D (hS.keep hE) hU).mono ?_))))));rintro e j ⟨rfl,f⟩;refine⟨_,rfl,?_⟩;refine AD rfl (vr (NI (usedD D)) rfl) ?_;have hE:=hE.trans f;exact⟨by rw[hV],hE⟩
 have hV:HW D=0:=if_pos hdn;have hr:readyL D []=9:=JL hdn;refine gS (Y2 J7 rfl rfl ((D9 base _ H D (hS.keep hE) (AcI none 0 0) [] (RG.nil _ _ _) (by simp)).mono ?_));rintro e k ⟨rfl,h⟩;refine⟨_,rfl,?_⟩;refine gS (YX (a:=(readyL D []:Nat)) (b:=(0:Nat)) rfl rfl (Ba _ _ _ _) (kT (by omega) (cT rfl (AD rfl (vr (NI 0) rfl) ?_))));have hE:=hE.trans h;exact⟨by rw[hV],hE⟩
theorem RG.kept{α:Type}{k:Nat}{enc:α->List Acr}{w w' :Acs}{v:Acr}{l:List α}(h:RG k enc w v l){row:Option Nat}(hg:w.grownBy w' row)(hv:v.ownBlock=none\/v.ownBlock≠row):RG k enc w' v l:=by
 refine⟨h.1,?_⟩;obtain⟨h1,ao,cap,rfl,h2,h3,h4,h5⟩:=h.2;refine⟨h1,ao,cap,rfl,h2,h3,h4,fun a ha j u hu=> ?_⟩;have hc:=h5 a ha j u hu;subst ha;have hlt:=AdE w _ hc;have hbl:(a.add j).block=a.block:=by unfold Addr.add;split <;> rfl
 have hne:(some a.block)≠row:=by
  rcases hv with hv | hv
  ·cases hv
  ·exact hv
 rw[hbl]at hlt;rw[World.cell?_of_block (w:=w) (by rw[hbl];exact hg.block a.block hlt hne)];exact hc
theorem S3(t:Acz)(a b:Int)(hb:b≠0):Adb .rem t (.int .i64 a) (.int .i64 b)=pure (.int .i64 (Afe a b)):=by
 unfold Adb;simp only[ne_eq,not_true_eq_false,if_false,Op.intDiv];rw[if_neg hb]
theorem PI(x:Int)(m:Nat): -(m:Int)<=Afe x ((m+1:Nat):Int)/\Afe x ((m+1:Nat):Int)<=m:=by
 have h1:=Int.tmod_lt_of_pos x (show(0:Int)<((m+1:Nat):Int) by omega);have h2:=Int.lt_tmod_of_pos x (show(0:Int)<((m+1:Nat):Int) by omega);omega
theorem WI(t:Acz)(x:Int)(m:Nat)(y:Int)(hy:y=Afe x ((m+1:Nat):Int)+m+1):Adb .rem t (.int .i64 y) (NI (m+1))=pure (NI (AeR x ((m+1:Nat):Int)).toNat):=by
 have hb:=PI x m;have h:=S3 t y ((m+1:Nat):Int) (by omega);refine h.trans ?_;have a:Afe y ((m+1:Nat):Int)=AeR y ((m+1:Nat):Int):=Int.tmod_eq_emod_of_nonneg (by omega);have b:AeR y ((m+1:Nat):Int)=AeR x ((m+1:Nat):Int):=by
  have h3:Afe x ((m+1:Nat):Int)=x-((m+1:Nat):Int)*Int.tdiv x ((m+1:Nat):Int):=Int.tmod_def _ _;have h4:y=x+((m+1:Nat):Int)*(1-Int.tdiv x ((m+1:Nat):Int)):=by
   rw[hy,h3,Int.mul_sub,Int.mul_one];omega
  show y%_=x%_;rw[h4,Int.add_mul_emod_self_left]
 have h5:0<=AeR x ((m+1:Nat):Int):=Int.emod_nonneg x (show((m+1:Nat):Int)≠0 by omega);rw[a,b];show pure (AeJ .i64 (AeR x _))=pure (AeJ .i64 (((AeR x ((m+1:Nat):Int)).toNat:Nat):Int));rw[Int.toNat_of_nonneg h5]
def Dt(q:Nat):Aj:=⟨q,[],[],[],[],0,0,false⟩
theorem WJ(q:Nat):DOk (Dt q):=⟨Acq _,Acq _,fun a h=>(by cases h),fun x h=>(by cases h)⟩
theorem Aa8{P:AcN}{K:Acr->Acs->Prop}{ρ:Ah}{w:Acs}{d:Option Tmp}{t ty:Acz}{pos:String}{af:Array Edge}{gd:Option (Nat × Bool)}{i0 i1 i2:Nat}{x0 x1 x2:AcD}{a b c v:Acr}(h0:Ab ρ x0=a)(h1:Ab ρ x1=b)(h2:Ab ρ x2=c)(hr:∀w:Acs,(Adu t #[(i0,a),(i1,b),(i2,c)]).run P w = .ok v w)(hk:K v w):Yk P K ((execOp (Ab ρ) ⟨d, .build t #[(i0,x0),(i1,x1),(i2,x2)],ty,pos,af,gd⟩).run P w):=
 Yk.build (by simp[h0,h1,h2]) hr hk
theorem WK(q:Int)(a b:Nat)(w:Acs):(Adu 82 #[(0, .int .i64 q),(1, .map (some a)),(2, .map (some b))]).run Acu w = .ok (.agg #[.int .i64 q, .map (some a), .map (some b), .slice none 0 0,NI 0,NI 0, .bool false]) w:=by kernel_rfl
theorem Ea:Tryz.prog.underlying 42=some (.slice 3):=by kernel_rfl
theorem UR:∀w' :Acs,(sizeOf 3).run Acu w' = .ok 1 w' :=fun _=>by kernel_rfl
theorem S4:(Tryz.prog.info? 42).map (·.size)=some 1:=by kernel_rfl
theorem XN(w:Acs)(q:Nat)(hq:q<=1073741824):
  Calls Acu 9 #[NI q] w fun e w' =>∃H,e = .returned (PQ H.g 0)/\DkS w.heap.size w' H (Dt q)/\Ext w w' :=by
 refine gG (args:= [NI q]) Tryz.func9 rfl 14 rfl rfl ?_;have hE:=AbE w;refine gS (YX (a:=(q:Nat)) (b:=(0:Nat)) rfl rfl (Bf _ _ _ _) (kF (by omega) (gS (YX (a:=(q:Nat)) (b:=(1073741824:Nat)) rfl rfl (CD _ _ _ _) (kF (by omega) (gS (Zx rfl rfl (cF rfl ?_))))))));have v:=hE.size;refine gS (Z1 St (pF (fun _=>0)) Nm fun c p x hm8 r y=> ?_);have z:c<p.heap.size:=by omega
 have hE:=hE.trans r;have aa:=hE.size;refine gS (Z1 St (pF (fun _=>0)) Nm fun f s ab hm16 m ac=> ?_);have ad:f<s.heap.size:=by omega
 refine gS (Aa8 rfl rfl rfl (fun w=>WK _ _ _ w) (gS (AbU (vr (.agg (IS q c f (.slice none 0 0) 0 0 false).toArray) rfl) fun h t n o l ae=> ?_)));have hE:=hE.trans m;have af:=hE.size;have hm8:=hm8.keep m;have ag:=AO hm8.lt n;have ah:=AO hm16.lt n;have u:=o;clear o;have ai:h<t.heap.size:=by omega
 refine AD rfl (vr (PQ h 0) rfl) ?_;have hE:=hE.trans l;have hm8:=hm8.keep l;have hm16:=hm16.keep l;exact⟨⟨h,c,f, .slice none 0 0,fun _=>0,fun _=> .slice none 0 0⟩,rfl,⟨u,hm8,hm16,by show c≠f;omega,⟨[],Ad1 _ _ _ 1,rfl,fun i hi=>absurd hi (AdB _)⟩,⟨fun k hk=>absurd hk (AdB _),fun i j hi=>absurd hi (AdB _),fun i j hi=>absurd hi (AdB _)⟩,WJ q,by show _<=h/\_<=c/\_<=f;omega⟩,hE⟩
theorem XO(w:Acs)(bf:Nat)(vf:Acr)(fs:List Int)(hbf:w.heap[bf]? =some (.cells ([vf]).toArray 42 (0,0)))(hrf:RG 1 Mn w vf fs)(m:Nat)(hm:m<4611686018427387904)(hf:fs.length=0):
  Calls Acu 50 #[NI m,PQ bf 0] w fun e w' =>e = .returned (NI 0)/\Ext w w' :=by
 have hbl:=(bl hbf);have hgr:=Ac0 w (some bf);refine gG (args:= [NI m,PQ bf 0]) Tryz.func50 rfl 23 rfl rfl ?_;have hE:=AbE w;refine gS (YW Ea rfl rfl (Ac hbf rfl) (gS (Y8 Ea (Y5 hrf rfl) (gS (YX (a:=(fs.length:Nat)) (b:=(0:Nat)) rfl rfl (AK _ _ _ _) (kT (by omega) (cT rfl (AD rfl (vr (NI 0) rfl) ?_))))))));exact⟨rfl,hE⟩
theorem XP(w:Acs)(bf:Nat)(vf:Acr)(fs:List Int)(hbf:w.heap[bf]? =some (.cells ([vf]).toArray 42 (0,0)))(hrf:RG 1 Mn w vf fs)(hap:OB vf bf)(m:Nat)(hm:m<4611686018427387904)(hf:0<fs.length):
  Calls Acu 50 #[NI m,PQ bf 0] w fun e w' =>∃v',e = .returned (NI (AeR (fs.getD 0 0) ((m+1:Nat):Int)).toNat)/\w'.heap[bf]? =some (.cells ([v']).toArray 42 (0,0))/\RG 1 Mn w' v' (fs.drop 1)/\v'.ownBlock=vf.ownBlock/\w.grownBy w' (some bf):=by
 have hbl:=(bl hbf);have hgr:=Ac0 w (some bf);refine gG (args:= [NI m,PQ bf 0]) Tryz.func50 rfl 23 rfl rfl ?_;have hE:=AbE w;refine gS (YW Ea rfl rfl (Ac hbf rfl) (gS (Y8 Ea (Y5 hrf rfl) (gS (YX (a:=(fs.length:Nat)) (b:=(0:Nat)) rfl rfl (AK _ _ _ _) (kF (by omega) (cF rfl (gS (YW Ea rfl rfl (Ac hbf rfl) ?_)))))))));have o:(Mn (fs.getD (0) (0:Int))).length=1:=(AbO hrf (0:Int) (by omega));refine gS (Zd Ea UR (by decide) (0:Int) (Y5 hrf rfl) rfl (by omega) fun p h=>(gS (Zo NB rfl (PR.cell (Zj h rfl) rfl) ?_)));clear h;refine gS (YW Ea rfl rfl (Ac hbf rfl) (gS (AaL (l:=1) Ea UR rfl hrf rfl (by omega) fun f c hown11=> ?_)));have hown:=hown11;have k:OB f bf:=fun e=>hap (hown.symm.trans e);refine gS (Y1 (i:=0) (v:=f) rfl rfl hbf (AcF rfl) S4 (AbJ c).1 (AbJ c).2 fun n j g q=> ?_);have hrf:=RG.kept hrf g (.inr hap);have hgr:w.grownBy n (some bf):=Aa hgr g (fun _ e=> .inl e);clear hE;have c:=RG.kept c g (.inr k);clear hbf;have hbf:=j;clear j;have r:=bl hbf;have hbd:=PI (fs.getD 0 0) m;refine gS (Y4 (xv:=NI m) (yv:=NI 1) rfl rfl rfl (AG _ _ _ (by omega)) (gS (Y4 (xv:= .int .i64 (fs.getD (0) (0:Int))) (yv:=NI ((m)+(1))) rfl rfl rfl (S3 _ (fs.getD (0) (0:Int)) _ (by omega)) (gS (Y4 (xv:= .int .i64 ((Afe (fs.getD (0) (0:Int)) ((m+1:Nat):Int)))) (yv:= .int .i64 (((m:Nat):Int))) rfl rfl rfl (Sz _ ((Afe (fs.getD (0) (0:Int)) ((m+1:Nat):Int))) (((m:Nat):Int)) (by omega)) (gS (Y4 (xv:= .int .i64 ((((Afe (fs.getD (0) (0:Int)) ((m+1:Nat):Int)))+(((m:Nat):Int))))) (yv:= .int .i64 (((1:Nat):Int))) rfl rfl rfl (Sz _ ((((Afe (fs.getD (0) (0:Int)) ((m+1:Nat):Int)))+(((m:Nat):Int)))) (((1:Nat):Int)) (by omega)) (gS (Y4 (xv:=NI m) (yv:=NI 1) rfl rfl rfl (AG _ _ _ (by omega)) (gS (Y4 (xv:= .int .i64 ((((((Afe (fs.getD (0) (0:Int)) ((m+1:Nat):Int)))+(((m:Nat):Int))))+(((1:Nat):Int))))) (yv:=NI ((m)+(1))) rfl rfl rfl (WI _ (fs.getD 0 0) m _ (by omega)) (AD rfl (vr (NI ((AeR (fs.getD 0 0) ((m+1:Nat):Int)).toNat)) rfl) ?_))))))))))));exact⟨f,rfl,hbf,c,hown,hgr⟩
def HX(D:Aj)(n:Nat):Bb:=(D.acts.take n).foldl turnD D.kept
theorem QU{D:Aj}{n:Nat}(h:n<D.acts.length):HX D (n+1)=turnD (HX D n) (D.acts.getD n ⟨[],[],0⟩):=by
 unfold HX;rw[AdR h,List.foldl_append,AcA,AcG h];rfl
theorem US{D:Aj}(h:DOk D)(n:Nat):DirOk D.files.length (HX D n):=h.kept.fold fun a ha=>h.acts a ((AfG _ _).subset ha)
theorem QV(D:Aj)(l:List Int):HX D (By l 0 (D.acts.length+1))=AH D l:=rfl
def EL(D:Aj)(l:List Int)(L:Bb)(n:Nat):List (AhU × Nat):=(L.take n).mapIdx fun i e=>E7 D l i e.2
def DQ(L:Bb)(n:Nat):Bb:=CV (L.take n)
theorem JO{α β:Type}(f:Nat->α->β)(l:List α)(a:α):(l++ [a]).mapIdx f=l.mapIdx f++ [f l.length a]:=by
 rw[List.mapIdx_append];simp
theorem S5{D:Aj}{l:List Int}{L:Bb}{n:Nat}(h:n<L.length):EL D l L (n+1)=EL D l L n++ [E7 D l n (L.getD n ([],0)).2]:=by
 unfold EL;rw[AdR h,JO,AcS,Ae7 (by omega),AcA,AcG h];rfl
theorem numN_succ{L:Bb}{n:Nat}(h:n<L.length):DQ L (n+1)=DQ L n++ [((L.getD n ([],0)).1,n)]:=by
 unfold DQ CV;rw[AdR h,JO,AcS,Ae7 (by omega),AcA,AcG h];rfl
theorem UT(D:Aj)(l:List Int)(L:Bb){n:Nat}(h:n<=L.length):(EL D l L n).length=n:=by
 unfold EL;rw[AfC,AcS];omega
theorem S6{L:Bb}(hs:Dn L){n:Nat}(h:n<L.length):lookD (DQ L n) (L.getD n ([],0)).1=none:=by
 refine FE.2 fun e he q=> ?_;have h1:e.1∈(DQ L n).map Adr:=AeC he;unfold DQ at h1;rw[Gu]at h1;obtain⟨x,hx,hxe⟩:=Ado.1 h1;obtain⟨j,hj,hjx⟩:=AdA.1 hx;rw[AcS]at hj;rw[List.getElem_take]at hjx;have h2:=Aev.1 hs j n (by omega) h (by omega);rw[AcA,AcG h,Option.getD_some]at q;rw[hjx,hxe,q,FD]at h2;cases h2
theorem UU{L:Bb}(hs:Dn L){n:Nat}(h:n<L.length):updM (lookD (DQ L n)) (L.getD n ([],0)).1 (some n)=lookD (DQ L (n+1)):=by
 funext t
 rw[numN_succ h,HP];unfold updM;by_cases ht:t=(L.getD n ([],0)).1
 ·rw[if_pos ht,ht,S6 hs h];show _=lookD [_] _;rw[Ci,if_pos rfl]
 ·rw[if_neg ht];rw[Ci,if_neg (fun q=>ht q.symm)];show _=(lookD (DQ L n) t).or none;rw[Option.or_none]
theorem Gw(D:Aj)(l:List Int):Bo D l = { quota:=D.quota,files:=EL D l (AH D l) (AH D l).length,now:=DQ (AH D l) (AH D l).length,kept:=DQ (AH D l) (AH D l).length,acts:= [],refused:=D.refused,arm:=0,down:=false } :=by
 unfold Bo EL DQ;rw[AdY]
theorem WL{L:Bb}{n:Nat}{s:AhU}{k:Nat}(h:lookD (DQ L n) s=some k):k<n:=by
 have:=EJ h;unfold DQ CV at this;obtain⟨i,hi,he⟩:=AfA.1 this;rw[AcS]at hi;cases he;omega
theorem AaE{base:Nat}{w:Acs}{F:Nat->Nat}{V:Nat->Acr}{fs:List (AhU × Nat)}(h:FilesAt base w F V fs){f:Nat}{v:Acr}{x:AhU × Nat}(hf:FileAt base w f v x)(h1:∀k,k<fs.length->F k≠f)(h2:∀k,k<fs.length->∀i,(V k).ownBlock=some i->v.ownBlock≠some i):
  FilesAt base w (Bj F fs.length f) (Bj V fs.length v) (fs++ [x]):=by
 refine⟨fun k hk=> ?_,fun i j hi hj e=> ?_,fun i j hi hj hne y hy=> ?_⟩
 ·rw[Acx,Ac2]at hk;by_cases e:k=fs.length
  ·subst e;rw[BJ,BJ,FH];exact hf
  ·have hk' :k<fs.length:=by omega
   rw[Bx _ _ hk',Bx _ _ hk',getD_left hk'];exact h.at_ k hk'
 ·rw[Acx,Ac2]at hi hj;by_cases ei:i=fs.length <;> by_cases ej:j=fs.length
  ·omega
  ·rw[ei,BJ,Bx _ _ (by omega:j<fs.length)]at e;exact absurd e.symm (h1 j (by omega))
  ·rw[ej,BJ,Bx _ _ (by omega:i<fs.length)]at e;exact absurd e (h1 i (by omega))
  ·rw[Bx _ _ (by omega:i<fs.length),Bx _ _ (by omega:j<fs.length)]at e;exact h.inj i j (by omega) (by omega) e
 ·rw[Acx,Ac2]at hi hj;by_cases ei:i=fs.length
  ·rw[ei,BJ]at hy;rw[Bx _ _ (by omega:j<fs.length)];exact fun q=>h2 j (by omega) y q hy
  ·rw[Bx _ _ (by omega:i<fs.length)]at hy;by_cases ej:j=fs.length
   ·rw[ej,BJ];exact h2 i (by omega) y hy
   ·rw[Bx _ _ (by omega:j<fs.length)];exact h.apart i j (by omega) (by omega) hne y hy
section
variable {base : Nat} {w w' : Acs} {H : Dk} {D : Aj}
theorem FilesAt.setT{F:Nat->Nat}{V:Nat->Acr}{fs:List (AhU × Nat)}(h:FilesAt base w F V fs){g x:Nat}(hg:w.grownBy w' (some g))(ht:Cz w g=some x)(h1:x≠120+1)(h2:x≠5+1):FilesAt base w' F V fs:=
 h.chg (B:=fun i=>i=g) (Zw hg fun i e=> .inl (AcY e).symm) fun k hk=>
  ⟨fun e=>BC (Bp (h.at_ k hk).blk) ht (fun q=>h1 q.symm) e,fun i hi e=>BC (ET (h.at_ k hk).row hi) ht (fun q=>h2 q.symm) e⟩
theorem FilesAt.keep{F:Nat->Nat}{V:Nat->Acr}{fs:List (AhU × Nat)}(h:FilesAt base w F V fs)(hE:Ext w w'):FilesAt base w' F V fs:=FilesAt.chg h (B:=fun _=>False) (Ab8 hE) fun _ _=>⟨fun q=>q,fun _ _ q=>q⟩
theorem FilesAt.low{F:Nat->Nat}{V:Nat->Acr}{fs:List (AhU × Nat)}(h:FilesAt base w F V fs){b' :Nat}(hb:b' <=base):FilesAt b' w F V fs:=⟨fun k hk=>⟨(h.at_ k hk).blk,AJ (h.at_ k hk).row hb,Acw hb (h.at_ k hk).lo⟩,h.inj,h.apart⟩
theorem FilesAt.nil(F:Nat->Nat)(V:Nat->Acr):FilesAt base w F V []:=⟨fun k hk=>absurd hk (AdB _),fun i j hi=>absurd hi (AdB _),fun i j hi=>absurd hi (AdB _)⟩
theorem DkS.crashed(h:DkS base w H D){l:List Int}{F' :Nat->Nat}{V' :Nat->Acr}{na nb:Nat}(h0:base<=w.heap.size)(hc:Chg (fun i=>i=H.g) w w')(hb:w'.heap[H.g]? =some (.cells (IS D.quota na nb (.slice none 0 0) D.refused 0 false).toArray 82 (0,0))) 
  (ha:MapF St (pF F') Nm w' na (lookD (DQ (AH D l) (AH D l).length))) (hk:MapF St (pF F') Nm w' nb (lookD (DQ (AH D l) (AH D l).length))) (hne:na≠nb) (hna:w.heap.size<=na) (hnb:w.heap.size<=nb)
  (hf:FilesAt w.heap.size w' F' V' (EL D l (AH D l) (AH D l).length)):DkT base w H D w' ⟨H.g,na,nb, .slice none 0 0,F',V'⟩ (Bo D l):=by
 have hok:=h.ok.crash l;have hl:(Bo D l).files.length=(EL D l (AH D l) (AH D l).length).length:=by rw[Gw]
 refine⟨⟨by rw[Gw];exact hb,by rw[Gw];exact ha,by rw[Gw];exact hk,hne,⟨[],Ad1 _ _ _ 1,rfl,fun i hi=>absurd hi (AdB _)⟩,by rw[Gw];exact hf.low h0,hok,⟨h.lo.1,Acw h0 hna,Acw h0 hnb⟩⟩,rfl,hc.mono fun i _ e=> .inl e,fun i hi=> ?_⟩;rcases hi with e | e | e | e | ⟨k,hk',e⟩
 ·exact .inl (.inl e)
 ·exact .inr ((show i=na from e)▸hna)
 ·exact .inr ((show i=nb from e)▸hnb)
 ·cases(show(none:Option Nat)=some i from e)
 ·rw[hl]at hk';rcases e with e | e
  ·exact .inr ((show i=F' k from e)▸(hf.at_ k hk').lo)
  ·exact .inr (((hf.at_ k hk').row.lt i e).1)
end
def FAt(n0:Nat)(w:Acs)(v:Acr)(l:List Int):Prop:=RG 1 (fun n:Int=> [AeJ .i64 n]) w v l/\(l= []\/∃b,v.ownBlock=some b/\b<n0)
theorem QW{α:Type}{k:Nat}{enc:α->List Acr}{w w' :Acs}{v:Acr}(h:RG k enc w v ([]:List α)):RG k enc w' v []:=by
 obtain⟨h0,h1,ao,cap,rfl,h2,h3,h4,h5⟩:=h;exact⟨h0,h1,ao,cap,rfl,h2,h3,h4,fun a _ j u hu=>by simp at hu⟩
theorem FAt.keep{a:Nat}{w w' :Acs}{v:Acr}{l:List Int}(h:FAt a w v l)(hE:Ext w w'):FAt a w' v l:=⟨h.1.keep hE,h.2⟩
theorem AbA{w:Acs}{v:Acr}{l:List Int}(h:RG 1 (fun n:Int=> [AeJ .i64 n]) w v l):FAt w.heap.size w v l:=by
 refine⟨h,?_⟩;cases l with
 | nil=>exact .inl rfl
 | cons x r=>
  obtain⟨-,h1,ao,cap,rfl,h2,h3,h4,h5⟩:=id h;cases ao with
  | none=>exact absurd (h4 rfl).1 (by simp)
  | some a=>
   have hc:=h5 a rfl 0 (.int .i64 x) (by simp);have hl:=AdE w _ hc;refine .inr ⟨a.block,rfl,?_⟩;have e:(a.add 0).block=a.block:=by unfold Addr.add;split <;> rfl
   rwa [e]at hl
theorem S7{α:Type}{l:List α}{n i:Nat}{d:α}(h:i<n):(l.take n).getD i d=l.getD i d:=by
 rw[AcA,List.getElem?_take_of_lt h,<-AcA]
theorem UV{l:Bb}{j:Nat}(h:j<l.length):(l.map Adr).getD j []=(l.getD j ([],0)).1:=by
 rw[AcA,AcA,List.getElem?_map,AcG h];rfl
theorem N9:∀(acs:List BP) (l:Bb),(acs.foldl turnD l).length<=l.length+acs.length
 | [],l=>Acy _
 | a :: r,l=>by
  have h1:=N9 r (turnD l a);have h2:=N2 l a;rw[List.foldl_cons,AcK];omega
theorem Oa(D:Aj)(fs:List Int):(AH D fs).length<=D.kept.length+D.acts.length:=by
 have h:=N9 (D.acts.take (By fs 0 (D.acts.length+1))) D.kept;rw[AcS]at h;unfold AH;omega
theorem FAt.set{a:Nat}{w w' :Acs}{v:Acr}{l:List Int}(h:FAt a w v l){g:Nat}(hg:w.grownBy w' (some g))(hn:a<=g):FAt a w' v l:=by
 rcases h.2 with rfl | ⟨b,hb,hl⟩
 ·exact⟨QW h.1, .inl rfl⟩
 ·exact⟨h.1.kept hg (.inr (fun e=>by have:=AcY (hb.symm.trans e);omega)), .inr ⟨b,hb,hl⟩⟩
theorem Ob(w:Acs)(a bf:Nat)(hn:a<=bf)(vf:Acr)(fs:List Int)(i:Nat)(hbf:w.heap[bf]? =some (.cells ([vf]).toArray 42 (0,0)))(hF:FAt a w vf (fs.drop i))(m:Nat)(hm:m<4611686018427387904):
  Calls Acu 50 #[NI m,PQ bf 0] w fun e w' =>∃v',e = .returned (NI (By fs i (m+1)))/\w'.heap[bf]? =some (.cells ([v']).toArray 42 (0,0))/\FAt a w' v' (fs.drop (i+1))/\w.grownBy w' (some bf):=by
 by_cases hi:i<fs.length
 ·have hl:0<(fs.drop i).length:=by rw[List.length_drop];omega
  rcases hF.2 with h0 | ⟨b,hb,hlt⟩
  ·rw[h0]at hl;exact absurd hl (Agh _)
  ·refine(XP w bf vf (fs.drop i) hbf hF.1 (fun e=>by have:=AcY (hb.symm.trans e);omega) m hm hl).mono fun e w' q=> ?_;obtain⟨v',h1,h2,h3,h4,h5⟩:=q;refine⟨v',?_,h2,⟨by rw[List.drop_drop]at h3;exact h3, .inr ⟨b,h4.trans hb,hlt⟩⟩,h5⟩;rw[h1];unfold By;rw[if_pos hi,AcA,List.getElem?_drop,Nat.add_zero,<-AcA]
 ·have h0:fs.drop i= []:=Ag7 (by omega);have h1:fs.drop (i+1)= []:=Ag7 (by omega);rw[h0]at hF;refine(XO w bf vf [] hbf hF.1 m hm rfl).mono fun e w' q=> ?_;obtain⟨he,hE⟩:=q;exact⟨vf,by rw[he];unfold By;rw[if_neg hi],(eb hE hbf),by rw[h1];exact hF.keep hE,Aa (Ac0 w (some bf)) hE.grown (fun _ e=>by cases e)⟩
theorem Oc:Plain Acu 50:=fun _ _=>by kernel_rfl
theorem S8:∀w' :Acs,(sizeOf 113).run Acu w' = .ok 1 w' :=fun _=>by kernel_rfl
theorem S9:Tryz.prog.underlying 113=some (.func #[79] #[] false):=by kernel_rfl
theorem UW:Plain Acu 53:=fun _ _=>by kernel_rfl
theorem UX:Plain Acu 52:=fun _ _=>by kernel_rfl
theorem XQ(ao:Option Addr)(n c:Nat)(z:Int)(w:Acs):(Adu 120 #[(0, .slice ao n c),(1, .int .i64 z)]).run Acu w = .ok (.agg #[.slice ao n c, .int .i64 z]) w:=by kernel_rfl
theorem UY(w0 w:Acs)(ax:Ext w0 w)(H:Dk)(D:Aj)(hS:DkS w0.heap.size w H D)(vf:Acr)(fs:List Int)(hrf:RG 1 (fun n:Int=> [AeJ .i64 n]) w vf fs)(hL:Eo D):
  Calls Acu 21 #[PQ H.g 0,vf] w fun e w' =>∃H',e = .returned (.tuple #[])/\DkT w0.heap.size w H D w' H' (Bo D fs):=by
 have hb:=hS.blk;have hgl:=(bl hb);have hgl0:=hS.lo.1;have hsz0:=ax.size;have t:=hS;have bs:=ax;obtain⟨vs,hvs⟩:=hS.acts;have hvl:=hvs.len;have hva:RG 1 JJ w H.va vs:=YY (⟨fun _ _=>rfl,by rw[enV_flat];exact hvs.row⟩:OG w0.heap.size 113 1 JJ w H.va vs);have hFA:=AbA hrf;have hact:=hL.acts;refine gG (args:= [PQ H.g 0,vf]) Tryz.func21 rfl 102 rfl rfl ?_;have hE:=AbE w;refine gS (ZD (vr vf rfl) (AbJ (hrf.keep hE)).1 fun p w3 cd a6 a7 ce=> ?_);have m:=AbE w;have cf:=hE.size;have cg:=ax.size;have r:=a6;clear a6;have ch:p<w3.heap.size:=by omega
 have m:=m.trans a7;have hFA:FAt w.heap.size w3 vf (fs.drop 0):=(hFA.keep m);have hbfw:w.heap.size<=p:=by omega
 have hbfl:p<w3.heap.size:=(bl r);have hE:=hE.trans a7;refine gS (ZC UE rfl (kB (rfl) (cF rfl (gS (Zl (vs:= #[PQ p 0]) (by simp only[AcJ,AcL,AcR];exact congrArg Ac4 (Fm (vr (PQ p 0) rfl))) (gS (AbF rfl (gS (AbD QS rfl (gS (YW N4 rfl rfl (Ac (eb hE hb) rfl) (gS (YZ UK rfl ((IU _ (hS.keep hE).kept).mono ?_))))))))))))));rintro e a8 ⟨nl,rfl,hnl,hml,az⟩;refine⟨_,rfl,?_⟩;have hFA:FAt w.heap.size a8 vf (fs.drop 0):=(hFA.keep az);have hE:=hE.trans az;have hnlw:w.heap.size<=nl:=by have:=hE.size;omega
 have hnb:p≠nl:=by omega
 have hml:MapF St (pF H.F) Nm a8 nl (lookD (HX D 0)):=hml;have hnll:=hml.lt;refine FS [0,1,2,3,4,5,6,7,8,9,13,10,11,12] [10] [1,2] [3] fun bt ap=> ?_;have hFA:FAt w.heap.size bt vf (fs.drop 0):=(hFA.keep ap);have hE:=hE.trans ap;refine Gf hE ?_;refine yp (AbF rfl zz) (yp (AbD K5 rfl zz) (yf (fun _ ⟨hE,_⟩=>YW J8 rfl rfl (Ac (eb hE hb) rfl) zz) (ys (AbF rfl zz) (ys (AbD K5 rfl zz) (ys (YW J8 rfl rfl (Ac (eb hE hb) rfl) zz) (ys (Y8 J8 (Y5 (hva.keep hE) rfl) zz) ?_))))));have hZ1:=az.trans ap;have r:=eb hZ1 r;have htb:=Bp r;refine yI (Zq Oc (caps:= #[PQ p 0]) rfl #[NI vs.length,PQ p 0] (by simp only[AcJ,AcL,AcR,Adh,Ac3,Ac9];exact congrArg Ac4 (B4 rfl rfl)) ((Ob _ w.heap.size p hbfw vf fs (0) r hFA (vs.length) (by omega)).mono ?_));rintro e ci ⟨af,rfl,a9,hF26,a0⟩;refine⟨_,rfl,?_⟩;have hml:=hml.keep ap;have hml:=AbT hml a0 (Cn (by omega));clear hFA;clear r;have r:=a9;clear a9;have hFA:=hF26;clear hF26;have cj:=bl r;have hE:=Ad hE a0 (Acw (Acy _) (by omega));refine⟨⟨hE,trivial⟩,?_⟩;have hnf:By fs (0) (vs.length+1)<=vs.length:=by have:=HT fs 0 (n:=vs.length+1) (Nat.succ_pos _);omega
 refine yS (AaM (n:=By fs (0) (vs.length+1)) J8 S8 rfl (hva.keep hE) rfl hnf fun aj bu hown33=> ?_);have hvt:=bu;have hvb:Adc aj=H.va.ownBlock:=hown33;have hvnl:OB aj nl:=fun e=>by have h:=hvb.symm.trans e;have:=(hvs.row.lt _ h).2;omega
 have m:=m.trans hZ1;have m:=Ad m a0 (Acw (Acy _) (by omega));refine ys (Y8 J8 (Y5 hvt rfl) zz) (gL (fun(ρ:Ah) (wz:Acs)=>∃i:Nat,ρ 0=(PQ H.g 0:Acr)/\ρ 1=(vf:Acr)/\ρ 3=(PQ p 0:Acr)/\ρ 4=(.func (.func 50) #[] #[PQ p 0]:Acr)/\ρ 5=(.map (some nl):Acr)/\ρ 14=(.bool (false):Acr)/\ρ 32=(aj:Acr)/\ρ 33=(NI (((vs.take (By fs (0) (vs.length+1)))).length):Acr)/\ρ 34=(NI i:Acr)/\Ext w wz/\Ext w wz/\wz.heap[p]? =some (.cells ([af]).toArray 42 (0,0))/\FAt w.heap.size wz af (fs.drop (1))/\RG 1 (JJ) wz aj (vs.take (By fs (0) (vs.length+1)))/\MapF St (pF H.F) Nm wz nl (lookD (HX D i))/\(i<=By fs (0) (vs.length+1))/\True) (fun ρ _=>(By fs (0) (vs.length+1))-(intOf (ρ 34)).toNat) ⟨0,rfl,rfl,rfl,rfl,rfl,rfl,rfl,rfl,rfl,hE,m,r,hFA,hvt,hml,AcO _,trivial⟩ ?_);clear hml;clear hE r hFA hvt;rintro bv bw ⟨i,u,T1,T3,T4,T5,aq,ak,al,ag,hE,m,r,hFA,hvt,hml,hi,-⟩;have q34:=ag;refine gS (YX (a:=(i:Nat)) (b:=(((vs.take (By fs (0) (vs.length+1)))).length:Nat)) ag al (Bf _ _ _ _) ?_);refine cD rfl (fun a1=> ?_) fun a1=> ?_
 ·have hlt:i<By fs (0) (vs.length+1):=by have h:=a1;rw[AcS]at h;omega
  have hia:i<D.acts.length:=by have:=HT fs 0 (n:=vs.length+1) (Nat.succ_pos _);omega
  have hhE:=hE;have hat:ActAt bw H.F ((vs.take (By fs (0) (vs.length+1))).getD i undef) (D.acts.getD i ⟨[],[],0⟩):=by rw[S7 hlt];exact(hvs.at_ i hia).chg (B:=fun _=>False) (Ab8 hhE) (fun _ _ q=>q.elim) rfl
  have haok:=t.ok.acts _ (Dx (d:=⟨[],[],0⟩) hia);obtain⟨f,caps,hve,hpl,hcl⟩:=N6 hat hml (US t.ok i) haok;have ck:(JJ (((vs.take (By fs (0) (vs.length+1)))).getD (i) undef)).length=1:=(AbO hvt undef (by omega));refine gS (Zd J8 S8 (by decide) undef (Y5 hvt ak) ag (by omega) fun cl ba=>(gS (Zo S9 rfl (PR.cell (Zj ba rfl) rfl) ?_)));clear ba;refine gS (AaW hpl rfl hve T5 hcl fun bx hR44=> ?_);have hE:=Ad hE hR44.2 (Acw (Acy _) (by omega));have m:=Ad m hR44.2 (Acw (Acy _) (by omega));have r:=kb hR44.2 r (by omega);have hFA:FAt w.heap.size bx af (fs.drop (1)):=FAt.set hFA hR44.2 (by omega);have hvt:=RG.kept hvt hR44.2 (.inr hvnl);clear hml;have hml:=hR44.1;rw[<-QU hia]at hml;have hnll:=hml.lt;refine gS (Y4 (xv:=NI i) (yv:=NI 1) ag rfl rfl (AG _ _ _ (by omega)) (gK (And.intro ⟨i+1,u,T1,T3,T4,T5,aq,ak,al,rfl,hE,m,r,hFA,hvt,hml,by omega,trivial⟩ ?_)));show(By fs (0) (vs.length+1))-(intOf (NI ((i)+(1)))).toNat<(By fs (0) (vs.length+1))-(intOf (bv 34)).toNat;rw[q34];simp only[intOf,AcX];omega
 have hie:i=By fs (0) (vs.length+1):=by have h:=a1;rw[AcS]at h;omega
 rw[hie,hvl,QV]at hml;have hLok:=t.ok.left fs;have hLs:=hLok.sort;have hLl:(AH D fs).length<1099511627776:=Nat.lt_of_le_of_lt (Oa D fs) hL.kept;have hzc:=hE.size;have hnlc:=MapF.lt hml;have hbfc:=(bl r);refine gS (Z1 St (pF (fun _=>0)) Nm fun na ar cm hm48 a2 cn=> ?_);have hFA:FAt w.heap.size ar af (fs.drop (1)):=(hFA.keep a2);have hnaw:w.heap.size<=na:=by omega
 have hnan:na≠nl:=by omega
 have hnab:na≠p:=by omega
 have hnag:na≠H.g:=by omega
 have hma:MapF St (pF (fun _=>0)) Nm ar na (lookD (DQ (AH D fs) 0)):=hm48;have hnal:=hma.lt;have hml:=hml.keep a2;have hm1:=hml;refine gS (YZ UW T5 ((UI _ _).mono ?_));rintro e a3 ⟨rfl,hwk⟩;refine⟨_,rfl,?_⟩;have hxk:Ext ar a3:=by rw[hwk];exact(Adp _ _).alloc (Acy _) _
 have hFA:FAt w.heap.size a3 af (fs.drop (1)):=(hFA.keep hxk);have hZ2:=a2.trans hxk;have hE:=hE.trans hZ2;have hzk:=hE.size;refine gS (YZ UX rfl ((QP ar a3 hwk hm1 hLok hLl).mono ?_));rintro e bb ⟨vn,rfl,hnr0,au⟩;refine⟨_,rfl,?_⟩;have hFA:FAt w.heap.size bb af (fs.drop (1)):=(hFA.keep au);have hE:=hE.trans au;have hnr:OG w.heap.size 9 1 FF bb vn ((AH D fs).map Adr):=AbP hnr0 (by have:=hE.size;omega);have hZ3:=hZ2.trans au;have r:=eb hZ3 r;have hnrb:OB vn p:=fun e=>BC (ET hnr.2 e) (Bp r) (by decide) rfl;have hZ4:=hxk.trans au;have hma:=hma.keep hZ4;have hnra:OB vn na:=fun e=>BC (ET hnr.2 e) (MapF.tag hma) (by decide) rfl;have m:=m.trans hZ3;have hml:=hml.keep hZ4;refine gS (Y8 Mp (Y5 (YY hnr) rfl) (gL (fun(ρ:Ah) (wz:Acs)=>∃j:Nat,∃vb:Acr,∃F1:Nat->Nat,∃V1:Nat->Acr,ρ 0=(PQ H.g 0:Acr)/\ρ 1=(vf:Acr)/\ρ 3=(PQ p 0:Acr)/\ρ 4=(.func (.func 50) #[] #[PQ p 0]:Acr)/\ρ 5=(.map (some nl):Acr)/\ρ 8=(.map (some na):Acr)/\ρ 14=(.bool (false):Acr)/\ρ 32=(aj:Acr)/\ρ 33=(NI (((vs.take (By fs (0) (vs.length+1)))).length):Acr)/\ρ 34=(NI i:Acr)/\ρ 45=(vn:Acr)/\ρ 46=(NI ((((AH D fs).map Adr)).length):Acr)/\ρ 47=(NI j:Acr)/\Ext w wz/\Ext w wz/\MapF St (pF H.F) Nm wz nl (lookD (AH D fs))/\OG w.heap.size 9 1 (FF) wz vn ((AH D fs).map Adr)/\wz.heap[p]? =some (.cells ([vb]).toArray 42 (0,0))/\FAt w.heap.size wz vb (fs.drop (j+1))/\MapF St (pF F1) Nm wz na (lookD (DQ (AH D fs) j))/\FilesAt w.heap.size wz F1 V1 (EL D fs (AH D fs) j)/\(j<=(AH D fs).length)/\True) (fun ρ _=>(AH D fs).length-(intOf (ρ 47)).toNat) ⟨0,af,(fun _=>0),(fun _=> .slice none 0 0),u,T1,T3,T4,T5,rfl,aq,ak,al,ag,rfl,rfl,rfl,hE,m,hml,hnr,r,hFA,hma,FilesAt.nil _ _,AcO _,trivial⟩ ?_));clear r;clear hFA;clear hvt;clear hma;clear hE m hml hnr;rintro bz co ⟨j,vb,F1,V1,u,T1,T3,T4,T5,T8,aq,ak,al,ag,bc,bd,aw,hE,m,hml,hnr,hbv,hFA,hma,hfi,hj,-⟩;have q47:=aw;have hbfl2:=(bl hbv);have hnal2:=hma.lt;refine gS (YX (a:=(j:Nat)) (b:=((((AH D fs).map Adr)).length:Nat)) aw bd (Bf _ _ _ _) ?_);refine cD rfl (fun a4=> ?_) fun a4=> ?_
 ·have hlt:j<(AH D fs).length:=by have h:=a4;rw[AdQ]at h;exact h
  have hhE:=hE;have hnm:((AH D fs).map Adr).getD j []=((AH D fs).getD j ([],0)).1:=UV hlt;obtain⟨k,hk⟩:∃k,k=((AH D fs).getD j ([],0)).2:=⟨_,rfl⟩;have hmemj:=Dx (d:=([],0)) hlt;have hlk:lookD (AH D fs) (((AH D fs).map Adr).getD j [])=some k:=by rw[hnm,hk];exact Hk hLs hmemj
  have hkl:k<D.files.length:=hk▸hLok.num _ hmemj;have hmj:Bn (((AH D fs).map Adr).getD j [])=true:=by rw[hnm];exact hLok.may _ hmemj
  have hfa:=t.files.at_ k hkl;have hfb:=hfa.blk;have hfr:RB w (H.V k) (D.files.getD k ([],0)).1:=Zc hfa.row;have hfl:=hL.files _ (Dx (d:=([],0)) hkl);have hsy:=t.ok.syn _ (Dx (d:=([],0)) hkl);have cp:(FF ((((AH D fs).map Adr)).getD (j) ([]:AhU))).length=1:=(AbO (YY hnr) ([]:AhU) (by omega));refine gS (Zd Mp UF (by decide) ([]:AhU) (Y5 (YY hnr) bc) aw (by omega) fun cq be=>(gS (Zo EI rfl (PR.cell (Zj be rfl) rfl) ?_)));clear be;refine gS (ZO FO EF (fun _ _=>DL) N4 HU T5 rfl hml (BQ hmj).2 hlk ?_);have hfi_j0:=hfi;refine FS [0,1,2,3,4,5,6,7,8,9,10,11,12,13,14,15,16,17] [15] [1,2] [3] fun bf aa=> ?_;have hFA:FAt w.heap.size bf vb (fs.drop (j+1)):=(hFA.keep aa);have hfi:FilesAt w.heap.size bf F1 V1 (EL D fs (AH D fs) j):=(hfi.keep aa);have hE:=hE.trans aa;refine Gf hE ?_;refine yp (AbF rfl zz) (yp (AbD Pa rfl zz) (yf (fun _ ⟨hE,_⟩=>YW NB rfl rfl (Ac (eb hE hfb) rfl) zz) (ys (AbF rfl zz) (ys (AbD O8 rfl zz) (ys (YW G1 rfl rfl (Ac (eb hE hfb) rfl) zz) (ys (Zk G1 (Zn (hfr.keep hE) rfl) zz) (ys (AbF rfl zz) (ys (AbD Pa rfl zz) (ys (YW NB rfl rfl (Ac (eb hE hfb) rfl) zz) (ys (Y4 (xv:=NI (((D.files.getD k ([],0)).1:AhU).length)) (yv:=NI ((D.files.getD k ([],0)).2)) rfl rfl rfl (Ff _ _ _ (by omega) (by omega)) zz) ?_))))))))));have hbv:=eb aa hbv;have htb:=Bp hbv;refine yI (Zq Oc (caps:= #[PQ p 0]) T4 #[NI ((((D.files.getD k ([],0)).1:AhU).length)-((D.files.getD k ([],0)).2)),PQ p 0] (by simp only[AcJ,AcL,AcR,Adh,Ac3,Ac9];exact congrArg Ac4 (B4 rfl rfl)) ((Ob _ w.heap.size p hbfw vb fs (j+1) hbv hFA ((((D.files.getD k ([],0)).1:AhU).length)-((D.files.getD k ([],0)).2)) (by omega)).mono ?_));rintro e bg ⟨bh,rfl,bi,hF70,ai⟩;refine⟨_,rfl,?_⟩;have hml:=hml.keep aa;have hml:=AbT hml ai (Cn (by omega));have hma:=hma.keep aa;have hma:=AbT hma ai (Cn (by omega));have hfi:FilesAt w.heap.size bg F1 V1 (EL D fs (AH D fs) j):=FilesAt.setT hfi ai htb (by decide) (by decide);clear hbv;clear hFA;have hbv:=bi;clear bi;have hFA:=hF70;clear hF70;have cr:=bl hbv;have hE:=Ad hE ai (Acw (Acy _) (by omega));refine⟨⟨hE,trivial⟩,?_⟩;refine ys (Y4 (xv:=NI ((D.files.getD k ([],0)).2)) (yv:=NI (By fs (j+1) ((((D.files.getD k ([],0)).1:AhU).length)-((D.files.getD k ([],0)).2)+1))) rfl rfl rfl (AG _ _ _ (by have h:=(Gt t.ok fs j k).2;change (E7 D fs j k).2<=(D.files.getD k ([],0)).1.length at h;show(E7 D fs j k).2<_;omega)) zz) ?_;have hcut:=Gt t.ok fs j k;refine gS (AbF rfl (gS (AbD O8 rfl (gS (YW G1 rfl rfl (Ac (eb hE hfb) rfl) (gS (Aa1 (xs:=(D.files.getD k ([],0)).1) (n:=((D.files.getD k ([],0)).2)+((By fs (j+1) ((((D.files.getD k ([],0)).1:AhU).length)-((D.files.getD k ([],0)).2)+1)))) G1 P8 rfl (hfr.keep hE) rfl (by exact(Gt t.ok fs j k).2) fun b0 b1 ha77=> ?_)))))));have hfi_c:=hfi;refine gS (YZ UP rfl ((Mt _ b0 (((D.files.getD k ([],0)).1:AhU).take (((D.files.getD k ([],0)).2)+((By fs (j+1) ((((D.files.getD k ([],0)).1:AhU).length)-((D.files.getD k ([],0)).2)+1))))) b1 (by simp only[AcS];omega)).mono ?_));rintro e cs ⟨ab,rfl,ac⟩;refine⟨_,rfl,?_⟩;have ad:=AbE bg;have m:=m.trans aa;have m:=Ad m ai (Acw (Acy _) (by omega));have ct:=hE.size;have cu:=m.size;have hnr:=hnr.keep aa;have hnr:=AbH hnr ai hnrb;have am:=ac.own;obtain⟨ao_,n_,c_,hsl_⟩:∃ao n c,ab = .slice ao n c:=RB.slice (Zc am);refine gS (ZK (v:= .agg ([ab,NI (((D.files.getD k ([],0)).2)+((By fs (j+1) ((((D.files.getD k ([],0)).1:AhU).length)-((D.files.getD k ([],0)).2)+1))))]:List Acr).toArray) (vr ab rfl) (vr (NI (((D.files.getD k ([],0)).2)+((By fs (j+1) ((((D.files.getD k ([],0)).1:AhU).length)-((D.files.getD k ([],0)).2)+1))))) rfl) (fun w=>by rw[hsl_];exact XQ _ _ _ _ w) ?_);have hE:=hE.trans ac.ext;have hzb:=hE.size;have ad:=ad.trans ac.ext;have hfi_j:=(hfi.keep ad);refine gS (AbU (vr (.agg ([ab,NI (((D.files.getD k ([],0)).2)+((By fs (j+1) ((((D.files.getD k ([],0)).1:AhU).length)-((D.files.getD k ([],0)).2)+1))))]:List Acr).toArray) rfl) fun s bj a5 bk ae cv=> ?_);have m:=m.trans ac.ext;have cw:=hE.size;have cx:=m.size;have cy:=ad.size;have hml:=hml.keep ac.ext;have cz:=AO hml.lt a5;have hma:=hma.keep ac.ext;have c0:=AO hma.lt a5;have b2:=bk;clear bk;have c1:s<bj.heap.size:=by omega
  have hgfw:w.heap.size<=s:=by omega
  have hma:=hma.keep ae;have hmc:=MapF.congr (ev' :=pF (Bj F1 j s)) hma (fun a y hy=>by show PQ (Bj _ _ _ _) 0=_;rw[Bx _ _ (WL hy)]);have htm:=MapF.tag hmc;have am:=AbW _ _ _ _ _ _ _ _ am ae;have ad:=ad.trans ae;have hfi2:FilesAt w.heap.size bj (Bj F1 j s) (Bj V1 j ab) (EL D fs (AH D fs) (j+1)):=by
   have hl:=UT D fs (AH D fs) hj;have h:=AaE (hfi.keep ad) (f:=s) (v:=ab) (x:=E7 D fs j ((AH D fs).getD j ([],0)).2) ⟨by rw[<-hk];exact b2,by rw[<-hk];exact AJ am (by omega),hgfw⟩ (fun q hq e=>by have:=(bl (hfi_j.at_ q hq).blk);rw[e]at this;exact absurd this (by omega)) (fun q hq i hi e=>by have h1:=((hfi_c.at_ q hq).row.lt i hi).2;have h2:=(World.ownsRow.lt am i e).1;omega);rw[hl]at h;rw[S5 hlt];exact h
  refine gS (Aal (ev:=pF (Bj F1 j s)) (c:=j) FO EF N4 T8 (vr (St ((((AH D fs).map Adr)).getD (j) ([]:AhU))) rfl) (Eq.trans ((vr (PQ s 0) rfl)) (by show _=PQ (Bj F1 j s j) 0;rw[BJ])) hmc (BQ hmj).2 fun bm hM113 ah c2=> ?_);have hfi:=hfi2;have hml:=hml.keep ae;have hml:=AbT hml ah (Cn (by omega));have hfi:FilesAt w.heap.size bm (Bj F1 j s) (Bj V1 j ab) (EL D fs (AH D fs) (j+1)):=FilesAt.setT hfi ah htm (by decide) (by decide);have hFA:=hFA.keep ad;have hFA:FAt w.heap.size bm bh (fs.drop (j+1+1)):=FAt.set hFA ah (by omega);clear hma;have hma:=hM113;rw[hnm,UU hLs hlt]at hma;have hnr:=hnr.keep ac.ext;have hnr:=hnr.keep ae;have hnr:=AbH hnr ah hnra;have hbv:=eb ac.ext hbv;have c3:=AO (bl hbv) a5;have hbv:=eb ae hbv;have hbv:=kb ah hbv (by omega);have hE:=hE.trans ae;have hE:=Ad hE ah (Acw (Acy _) (by omega));have m:=m.trans ae;have m:=Ad m ah (Acw (Acy _) (by omega));refine gS (Y4 (xv:=NI j) (yv:=NI 1) aw rfl rfl (AG _ _ _ (by omega)) (gK (And.intro ⟨j+1,bh,(Bj F1 j s),(Bj V1 j ab),u,T1,T3,T4,T5,T8,aq,ak,al,ag,bc,bd,rfl,hE,m,hml,hnr,hbv,hFA,hma,hfi,by omega,trivial⟩ ?_)));show(AH D fs).length-(intOf (NI ((j)+(1)))).toNat<(AH D fs).length-(intOf (bz 47)).toNat;rw[q47];simp only[intOf,AcX];omega
 have hje:j=(AH D fs).length:=by have h:=a4;rw[AdQ]at h;omega
 rw[hje]at hma hfi;have o:=(eb hE hb);have hgl17:=(bl o);have c4:=hE.size;have hnal17:=MapF.lt hma;refine gS (YZ UK T8 ((IU _ hma).mono ?_));rintro e z ⟨nb,rfl,hnbl,hmb17,an⟩;refine⟨_,rfl,?_⟩;have hFA:FAt w.heap.size z vb (fs.drop (j+1)):=(hFA.keep an);have hfi:FilesAt w.heap.size z F1 V1 (EL D fs (AH D fs) (AH D fs).length):=(hfi.keep an);have hfi17:=hfi;have hma:=hma.keep an;have hma17:=hma;have hE:=hE.trans an;have hhE17:=hE;have o:=eb an o;have htd17:=Bp o;have hnbw:w.heap.size<=nb:=by omega
 have hnabn:na≠nb:=by omega
 have hgnb:H.g≠nb:=by omega
 have hC2:Chg (fun i=>i=H.g) z z:=Acg _ _;refine gS (AbF u (gS (AbD QL rfl (gS (Y1 (i:=1) (v:= .map (some na)) rfl T8 o (AcF rfl) SY rfl rfl fun b3 bn b4 c5=> ?_)))));clear m;clear hnr;have hC2:Chg (fun i=>i=H.g) z b3:=Ab3 hC2 b4 (.inl rfl);clear o;have o:=bn;clear bn;have c6:=bl o;refine gS (AbF u (gS (AbD QS rfl (gS (Y1 (i:=2) (v:= .map (some nb)) rfl rfl o (AcF rfl) SY rfl rfl fun b5 bo b6 c7=> ?_)))));have hC2:Chg (fun i=>i=H.g) z b5:=Ab3 hC2 b6 (.inl rfl);clear o;have o:=bo;clear bo;have c8:=bl o;refine gS (AbF u (gS (AbD K5 rfl (gS (Y1 (i:=3) (v:=(AcI none 0 0)) rfl rfl o (AcF rfl) SW rfl rfl fun b7 bp b8 c9=> ?_)))));have hC2:Chg (fun i=>i=H.g) z b7:=Ab3 hC2 b8 (.inl rfl);clear o;have o:=bp;clear bp;have da:=bl o;refine gS (AbF u (gS (AbD CW rfl (gS (Y1 (i:=5) (v:=NI 0) rfl rfl o (AcF rfl) Dw rfl rfl fun b9 bq ca db=> ?_)))));have hC2:Chg (fun i=>i=H.g) z b9:=Ab3 hC2 ca (.inl rfl);clear o;have o:=bq;clear bq;have dc:=bl o;refine gS (AbF u (gS (AbD QK rfl (gS (Y1 (i:=6) (v:= .bool (false)) rfl rfl o (AcF rfl) UL rfl rfl fun cb br cc dd=> ?_)))));have hC2:Chg (fun i=>i=H.g) z cb:=Ab3 hC2 cc (.inl rfl);clear o;have o:=br;clear br;have de:=bl o;refine Gg rfl ?_;have hCt:=(Ab8 hhE17:Chg (fun i=>i=H.g) w _).trans hC2 (fun i e=> .inl e);have hTf:=t.crashed (l:=fs) bs.size hCt o (hma17.chg hC2 (fun e=>hnag e)) (hmb17.chg hC2 (fun e=>hgnb e.symm)) hnabn hnaw hnbw (hfi17.chg hC2 (fun k hk=>⟨fun e=>BC (Bp (hfi17.at_ k hk).blk) htd17 (by decide) e,fun i hi e=>BC (ET (hfi17.at_ k hk).row hi) htd17 (by decide) e⟩));exact⟨_,rfl,hTf⟩
structure DBd (n : Nat) (D : Aj) : Prop where
 quota:D.quota<=1073741824
 refused:D.refused<=n
 arm:D.arm<=9223372036854775807
 acts:D.kept.length+D.acts.length<=n
 now:D.now.length<=n
 files:∀x∈D.files,x.1.length<=300*n
theorem DBd.file{n:Nat}{D:Aj}(h:DBd n D)(k:Nat):(Ap D k).1.length<=300*n:=by
 by_cases hk:k<D.files.length
 ·exact h.files _ (Ml hk)
 ·unfold Ap;rw[AcA,Ad5 (by omega)];exact AcO _
theorem QX{l:List Nat}{m:Nat}(h:∀x∈l,x<=m):l.sum<=l.length*m:=by
 induction l with
 | nil=>simp
 | cons a r ih=>
  have h1:=h a AdH;have h2:=ih fun x hx=>h x (AdF _ hx);rw[List.sum_cons,AcK,Nat.succ_mul];omega
theorem DBd.used{n:Nat}{D:Aj}(h:DBd n D):usedD D<=n*(300*n):=by
 unfold usedD;have h1:=QX (l:=D.now.map fun e=>(Ap D e.2).1.length) (m:=300*n) fun x hx=>by
  obtain⟨e,_,rfl⟩:=Ado.1 hx;exact h.file e.2
 rw[AdQ]at h1;exact Acw h1 (Nat.mul_le_mul_right _ h.now)
theorem DBd.lt{n:Nat}{D:Aj}(h:DBd n D)(hn:n<=100000):Eo D:=by
 have h1:=h.used;have h2:n*(300*n)<=100000*(300*100000):=Nat.mul_le_mul hn (Afx _ hn);have h3:=h.acts;have h4:=h.now;have h5:=h.refused;have h6:=h.arm;exact⟨h.quota,by omega,by omega,by omega,by omega,by omega,by omega,fun x hx=>by have:=h.files x hx;omega⟩
theorem DBd.mono{n m:Nat}{D:Aj}(h:DBd n D)(hn:n<=m):DBd m D:=
 ⟨h.quota,Acw h.refused hn,h.arm,Acw h.acts hn,Acw h.now hn,fun x hx=>Acw (h.files x hx) (Afx _ hn)⟩
theorem DBd.new{q:Nat}(hq:q<=1073741824):DBd 0 (Dt q):=⟨hq,Acy _,AcO _,Acy _,Acy _,fun x h=>by cases h⟩
theorem DBd.armed{n:Nat}{D:Aj}(h:DBd n D):DBd n (BY D).1:=by
 unfold BY;split
 ·exact h
 ·have:=h.arm;exact⟨h.quota,h.refused,by show D.arm-1<=_;omega,h.acts,h.now,h.files⟩
theorem DBd.turned{n:Nat}{D:Aj}(h:DBd n D)(a:BP):DBd (n+1) (turnedD D a):=by
 have h1:=N2 D.now a;have h2:=h.acts;have h3:=h.now;refine⟨h.quota,Ago h.refused,h.arm,?_,?_,fun x hx=>Acw (h.files x hx) (Afx _ (Af8 n))⟩
 ·show D.kept.length+(D.acts++ [a]).length<=n+1;rw[Acx,Ac2];omega
 ·show(turnD D.now a).length<=n+1;omega
theorem DBd.did{n:Nat}{D:Aj}(h:DBd n D){f:Aj->Aj}(hf:∀E,DBd n E->DBd (n+1) (f E)):DBd (n+1) (Ds D f).1:=by
 unfold Ds;split
 ·exact h.armed.mono (Af8 n)
 ·exact hf _ h.armed
theorem DBd.sync{n:Nat}{D:Aj}(h:DBd n D)(s:AhU):DBd (n+1) (Cf D s).1:=by
 unfold Cf;split
 ·exact h.mono (Af8 n)
 ·rename_i k _
  refine h.did fun E hE=>⟨hE.quota,Ago hE.refused,hE.arm,?_,Ago hE.now,fun x hx=> ?_⟩
  ·have:=hE.now;show E.now.length+0<=_;omega
  ·rcases AeW hx with hx | rfl
   ·have:=hE.files x hx;omega
   ·have:=hE.file k;show(Ap E k).1.length<=_;omega
theorem DBd.move{n:Nat}{D:Aj}(h:DBd n D)(s t:AhU):DBd (n+1) (De D s t).1:=by
 unfold De;split
 ·exact h.mono (Af8 n)
 ·exact h.did fun E hE=>hE.turned _
theorem DBd.drop{n:Nat}{D:Aj}(h:DBd n D)(s:AhU):DBd (n+1) (BF D s).1:=by
 unfold BF;split
 ·exact h.mono (Af8 n)
 ·exact h.did fun E hE=>hE.turned _
theorem DBd.crash{n:Nat}{D:Aj}(h:DBd n D)(l:List Int):DBd n (Bo D l):=by
 have h1:=Oa D l;have h2:=h.acts;have h3:(CV (AH D l)).length=(AH D l).length:=by unfold CV;rw[AfC]
 refine⟨h.quota,h.refused,AcO _,?_,?_,fun x hx=> ?_⟩
 ·show(CV (AH D l)).length+0<=n;omega
 ·show(CV (AH D l)).length<=n;omega
 ·obtain⟨i,hi,rfl⟩:=AfA.1 hx;have h4:=h.file ((AH D l)[i]'hi).2;unfold E7;simp only[AcS];omega
section
variable {base : Nat} {w w' wb : Acs} {g : Nat} {H H' : Dk} {D D' : Aj}
theorem DkS.low(h:DkS base w H D){b' :Nat}(hb:b' <=base):DkS b' w H D:=by
 obtain⟨vs,hv⟩:=h.acts;exact⟨h.blk,h.now,h.kept,h.ne,⟨vs,AJ hv.row hb,hv.len,hv.at_⟩,h.files.low hb,h.ok,⟨Acw hb h.lo.1,Acw hb h.lo.2.1,Acw hb h.lo.2.2⟩⟩
structure DkG (wb w : Acs) (g : Nat) (H : Dk) (D : Aj) : Prop where
 ext:Ext wb w
 st:DkS wb.heap.size w H D
 hg:H.g=g
theorem DkG.keep(h:DkG wb w g H D)(k:Ext w w'):DkG wb w' g H D:=⟨h.ext.trans k,h.st.keep k,h.hg⟩
theorem DkG.step(h:DkG wb w g H D)(k:DkT wb.heap.size w H D w' H' D'):DkG wb w' g H' D' :=⟨k.chg.ext h.ext (fun i q=>(h.st.foot q).2.2),k.st,k.g.trans h.hg⟩
theorem DkG.box(h:DkG wb w g H D)(hc:Chg (BR H D.files.length) w w'){b:Nat}{cs:Array Acr}{t:Acz}{fr:Nat × Nat}(hb:w.heap[b]? =some (.cells cs t fr))(h1:t≠82)(h2:t≠120)(h3:t≠5)(h4:t≠113):w'.heap[b]? =some (.cells cs t fr):=
 (hc.blk b (bl hb) (h.st.offT hb h1 h2 h3 h4)).trans hb
theorem DkG.read(h:DkG wb w g H D)(s:AhU)(hL:Eo D):
  Calls Acu 30 #[PQ g 0,St s] w fun e w' =>∃v,e = .returned (.tuple #[v,NI (Bk D s).2])/\w'.ownsRow w.heap.size 5 1 v (Bk D s).1.length (Lib.byteCells (Bk D s).1)/\Ext w w' :=by
 rw[<-h.hg];exact WH wb w H D h.st s hL
theorem DkG.used(h:DkG wb w g H D)(hL:Eo D):
  Calls Acu 23 #[PQ g 0] w fun e w' =>e = .returned (NI (HW D))/\Ext w w' :=by
 rw[<-h.hg];exact UQ _ w H D h.st hL.used
theorem V6(wb w:Acs)(hE:Ext wb w)(q:Nat)(hq:q<=1073741824):
  Calls Acu 9 #[NI q] w fun e w' =>∃g H,e = .returned (PQ g 0)/\DkG wb w' g H (Dt q)/\Ext w w' :=
 (XN w q hq).mono fun e w' ⟨H,he,hS,hx⟩=>⟨H.g,H,he,⟨hE.trans hx,hS.low hE.size,rfl⟩,hx⟩
end
theorem DkG.og{wb w w' :Acs}{g:Nat}{H:Dk}{D:Aj}(h:DkG wb w g H D)(hc:Chg (BR H D.files.length) w w'){α:Type}{b k:Nat}{t:Acz}{enc:α->List Acr}{v:Acr}{l:List α}(hr:OG b t k enc w v l)(h1:t≠82)(h2:t≠120)(h3:t≠5)(h4:t≠113):OG b t k enc w' v l:=by
 refine⟨hr.1,CY hc hr.2 fun i hi q=> ?_⟩;have ht:=ET hr.2 hi;rcases(h.st.foot q).1 with ⟨es,c,e⟩ | ⟨cs,t',fr,e,ht'⟩
 ·unfold Cz at ht;rw[e]at ht;cases ht
 ·have:=Bp e;rw[this]at ht;have ht:t' =t:=by simpa using ht
  subst ht;rcases ht' with q | q | q | q
  ·exact h1 q
  ·exact h2 q
  ·exact h3 q
  ·exact h4 q
def InjD(l:Bb):Prop:=l.Pairwise fun a b=>a.2≠b.2
theorem InjD.eq{l:Bb}(h:InjD l){e f:AhU × Nat}(he:e∈l)(hf:f∈l)(q:e.2=f.2):e=f:=by
 obtain⟨i,hi,rfl⟩:=AdA.1 he;obtain⟨j,hj,rfl⟩:=AdA.1 hf;rcases Nat.lt_trichotomy i j with hij | rfl | hij
 ·exact absurd q (Aev.1 h i j hi hj hij)
 ·rfl
 ·exact absurd q.symm (Aev.1 h j i hj hi hij)
theorem InjD.wo{l:Bb}(h:InjD l)(s:AhU):InjD (Hj l s):=Ahb List.filter_sublist h
theorem InjD.ins{l:Bb}(h:InjD l)(s:AhU){k:Nat}(hk:∀e∈l,e.2≠k):InjD (Gr l s k):=by
 unfold Gr InjD;rw[Afq];refine⟨h.sublist (Afc _),AeK.2 ⟨fun e he=>(hk e ((Afd _).subset he)).symm,h.sublist (Afd _)⟩,fun a ha b hb=> ?_⟩;rcases Ac8.1 hb with rfl | hb
 ·exact hk a ((Afc _).subset ha)
 ·have h2:(l.takeWhile (fun e=>Op.bytesLess e.1 s)++l.dropWhile (fun e=>Op.bytesLess e.1 s)).Pairwise fun a b=>a.2≠b.2:=by rw[List.takeWhile_append_dropWhile];exact h
  exact(Afq.1 h2).2.2 a ha b hb
theorem InjD.turn{l:Bb}(h:InjD l)(a:BP)(hk:a.to.length≠0->∀e∈l,e.2=a.file->e.1=a.frm):InjD (turnD l a):=by
 unfold turnD;split
 ·exact h.wo _
 ·rename_i hn
  refine((h.wo _).wo _).ins _ fun e he q=> ?_;have h1:=IR he;have h2:=hk hn e (IR h1) q;have h3:=(List.mem_filter.1 h1).2;simp[h2]at h3
theorem InjD.num(l:Bb):InjD (CV l):=by
 unfold InjD CV;rw[Aev];intro i j hi hj hij;rw[Ahx,Ahx];exact Nat.ne_of_lt hij
theorem InjD.add{D:Aj}(h:InjD D.now)(hok:DOk D)(s b:AhU):InjD (Bg D s b).now:=by
 unfold Bg;split
 ·exact h
 ·exact h.turn _ fun _ e he q=>absurd (hok.now.num e he) (by rw[q];exact Agh _)
theorem IV{D:Aj}{s t:AhU}(hd:D.down=false)(hs:Bn s=true)(ht:Bn t=true):Cy D s t=0:=by
 unfold Cy;rw[if_neg (by rw[hd];decide),if_pos ⟨hs,ht⟩]
theorem GU{l:List (AhU × Nat)}{k:Nat}{x:AhU × Nat}(h:k<l.length):(l.set k x).getD k ([],0)=x:=by
 rw[AcA,Ag5 h];rfl
theorem JP{l:List (AhU × Nat)}{k j:Nat}{x:AhU × Nat}(h:k≠j):(l.set k x).getD j ([],0)=l.getD j ([],0):=by
 rw[AcA,Ahi h,<-AcA]
theorem PJ(D:Aj)(s b:AhU):(Bg D s b).arm=D.arm/\(Bg D s b).down=D.down:=by
 unfold Bg;split <;> exact⟨rfl,rfl⟩
def jc(D:Aj):Bs:=match lookD D.now jrN with
 | some k=>(Ap D k).1
 | none=> []
def dirM(D:Aj)(m:Nat):Bb:=(D.acts.take m).foldl turnD D.kept
def HY(D:Aj):Option Nat->Bs->Prop
 | some k,c=>∃n,(Ap D k).2<=n/\n<=(Ap D k).1.length/\c=(Ap D k).1.take n
 | none,c=>c= []
def CC(D:Aj)(c:Bs):Prop:=∃m,m<=D.acts.length/\HY D (lookD (dirM D m) jrN) c
def Safe(P:Bs->Prop)(D:Aj):Prop:=∀c,CC D c->P c
structure JOk (D : Aj) : Prop where
 ok:DOk D
 now:dirM D D.acts.length=D.now
 inj:InjD D.now
 nm:∀m,∀e∈dirM D m,e.1=jrN\/e.1=nwN
theorem JOk.nmn{D:Aj}(h:JOk D):∀e∈D.now,e.1=jrN\/e.1=nwN:=by
 have:=h.nm D.acts.length
 rwa [h.now]at this
structure EqD (D D' : Aj) : Prop where
 files:D'.files=D.files
 now:D'.now=D.now
 kept:D'.kept=D.kept
 acts:D'.acts=D.acts
 quota:D'.quota=D.quota
section
variable {D D' : Aj} {P : Bs -> Prop}
theorem EqD.jc(h:EqD D D'):jc D' =jc D:=by unfold Go.Proofs.YtbbbblinjomajaaGreatDoor.jc Ap;rw[h.now,h.files]
theorem EqD.cc(h:EqD D D')(c:Bs):CC D' c↔CC D c:=by
 have h1:∀m,dirM D' m=dirM D m:=fun m=>by unfold dirM;rw[h.acts,h.kept]
 have h2:∀o c,HY D' o c=HY D o c:=fun o c=>by
  cases o with
  | none=>rfl
  | some k=>show(∃n,_)=∃n,_;unfold Ap;rw[h.files]
 unfold CC;rw[h.acts];simp only[h1,h2]
theorem EqD.ok(h:EqD D D')(hj:JOk D):JOk D' :=by
 refine⟨⟨?_,?_,?_,?_⟩,?_,?_,?_⟩
 ·rw[h.files,h.now];exact hj.ok.now
 ·rw[h.files,h.kept];exact hj.ok.kept
 ·rw[h.files,h.acts];exact hj.ok.acts
 ·rw[h.files];exact hj.ok.syn
 ·unfold dirM;rw[h.acts,h.kept,h.now];exact hj.now
 ·rw[h.now];exact hj.inj
 ·unfold dirM;rw[h.acts,h.kept];exact hj.nm
theorem EqD.safe(h:EqD D D')(hs:Safe P D):Safe P D' :=fun c hc=>hs c ((h.cc c).1 hc)
theorem EqD.used(h:EqD D D'):usedD D' =usedD D:=by unfold usedD Ap;rw[h.now,h.files]
theorem WM(D:Aj):EqD D (BY D).1:=by
 obtain⟨h1,h2,h3,h4,h5,h6⟩:=Ej D;exact⟨h1,h2,h3,h4,h5⟩
theorem Ta(hd:D.down=false):((BY D).2=true/\(BY D).1.down=true/\D.arm≠0)\/((BY D).2=false/\(BY D).1.down=false/\(D.arm=0->(BY D).1.arm=0)):=by
 unfold BY;by_cases h:D.arm=0
 ·rw[if_pos h];exact .inr ⟨rfl,hd,fun _=>h⟩
 ·rw[if_neg h];by_cases h1:D.arm-1=0
  ·rw[decide_eq_true h1];exact .inl ⟨rfl,rfl,h⟩
  ·rw[decide_eq_false h1];exact .inr ⟨rfl,rfl,fun q=>absurd q h⟩
theorem WN(h:JOk D)(m:Nat):DirOk D.files.length (dirM D m):=h.ok.kept.fold fun a ha=>h.ok.acts a ((AfG _ _).subset ha)
theorem K9:jrN≠nwN:=by decide
theorem F9(h:lookD D.now jrN=none):jc D= []:=by unfold jc;rw[h]
theorem Ek{k:Nat}(h:lookD D.now jrN=some k):jc D=(Ap D k).1:=by unfold jc;rw[h]
theorem AaY(h:JOk D):CC D (jc D):=by
 refine⟨D.acts.length,Acy _,?_⟩;rw[h.now];cases hl:lookD D.now jrN with
 | none=>exact F9 hl
 | some k=>exact⟨_,h.ok.sync_le k,Acy _,by rw[Ek hl,AdY]⟩
theorem Fs(a:BP){m:Nat}(hm:m<=D.acts.length):dirM (turnedD D a) m=dirM D m:=by
 unfold dirM turnedD;simp only;rw[Aff hm]
theorem EU(h:JOk D)(a:BP):dirM (turnedD D a) (D.acts.length+1)=turnD D.now a:=by
 have hn:=h.now;unfold dirM at hn ⊢;unfold turnedD;simp only;rw[AdY]at hn;rw[Ac7 (by simp),List.foldl_append,hn];rfl
theorem Tb(h:JOk D){a:BP}(ha:lookD (turnD D.now a) jrN=lookD D.now jrN){c:Bs}(hc:CC (turnedD D a) c):CC D c:=by
 obtain⟨m,hm,hk⟩:=hc;have hm:m<=D.acts.length+1:=by unfold turnedD at hm;simpa using hm
 by_cases hl:m<=D.acts.length
 ·rw[Fs a hl]at hk;exact⟨m,hl,hk⟩
 ·obtain rfl:m=D.acts.length+1:=by omega
  rw[EU h a,ha]at hk;exact⟨D.acts.length,Acy _,by rw[h.now];exact hk⟩
theorem Mu(h:JOk D){a:BP}(hn:∀e∈turnD D.now a,e.1=jrN\/e.1=nwN):∀m,∀e∈dirM (turnedD D a) m,e.1=jrN\/e.1=nwN:=fun m=>by
 by_cases hl:m<=D.acts.length
 ·rw[Fs a hl];exact h.nm m
 ·have e:dirM (turnedD D a) m=dirM (turnedD D a) (D.acts.length+1):=by
   unfold dirM;rw[Ac7 (by unfold turnedD;simp;omega),Ac7 (by unfold turnedD;simp)]
  rw[e,EU h a];exact hn
theorem Mv(h:JOk D){a:BP}(ha:ActOk D.files.length a)(hi:InjD (turnD D.now a))(hn:∀e∈turnD D.now a,e.1=jrN\/e.1=nwN):JOk (turnedD D a):=by
 refine⟨h.ok.turned ha,?_,hi,Mu h hn⟩;have e:(turnedD D a).acts.length=D.acts.length+1:=by unfold turnedD;simp
 rw[e,EU h a];rfl
theorem Mw(a:BP):jc (turnedD D a)=match lookD (turnD D.now a) jrN with
 | some k=>(Ap D k).1
 | none=> []:=rfl
theorem T1(h:JOk D){k:Nat}(hk:lookD D.now nwN=some k):JOk (turnedD D ⟨nwN,[],k⟩)/\jc (turnedD D ⟨nwN,[],k⟩)=jc D/\lookD (turnedD D ⟨nwN,[],k⟩).now nwN=none/\∀c,CC (turnedD D ⟨nwN,[],k⟩) c->CC D c:=by
 have e:lookD (turnD D.now ⟨nwN,[],k⟩) jrN=lookD D.now jrN:=(look_turn _ _ _).trans ((if_pos rfl).trans (if_neg K9));refine⟨Mv h ⟨(h.ok.now.look hk).1,fun q=>absurd rfl q,show nwN.length<=80 by decide⟩ (h.inj.turn _ fun q=>absurd rfl q) fun x hx=> ?_,?_,?_,fun c hc=>Tb h e hc⟩
 ·rcases Gs hx with q | ⟨q,-⟩
  ·exact h.nmn x q
  ·exact absurd rfl q
 ·rw[Mw,e];rfl
 ·exact(look_turn D.now ⟨nwN,[],k⟩ nwN).trans ((if_pos rfl).trans (if_pos rfl))
theorem T4(h:JOk D){k:Nat}(hk:lookD D.now nwN=some k)(hs:(Ap D k).2=(Ap D k).1.length):JOk (turnedD D ⟨nwN,jrN,k⟩)/\jc (turnedD D ⟨nwN,jrN,k⟩)=(Ap D k).1/\lookD (turnedD D ⟨nwN,jrN,k⟩).now nwN=none/\(∃j,lookD (turnedD D ⟨nwN,jrN,k⟩).now jrN=some j)/\∀c,CC (turnedD D ⟨nwN,jrN,k⟩) c->CC D c\/c=(Ap D k).1:=by
 have e:lookD (turnD D.now ⟨nwN,jrN,k⟩) jrN=some k:=(look_turn _ _ _).trans ((if_neg (show ¬jrN.length=0 by decide)).trans (if_pos rfl));refine⟨Mv h ⟨(h.ok.now.look hk).1,fun _=>show Bn jrN=true by decide,show nwN.length<=80 by decide⟩ (h.inj.turn _ fun _ x hx q=> ?_) fun x hx=> ?_,?_,?_,⟨k,e⟩,fun c hc=> ?_⟩
 ·have q:x.2=k:=q;exact congrArg Adr (h.inj.eq hx (EJ hk) q)
 ·rcases Gs hx with q | ⟨-,q⟩
  ·exact h.nmn x q
  ·rw[q];exact .inl rfl
 ·rw[Mw,e]
 ·exact(look_turn D.now ⟨nwN,jrN,k⟩ nwN).trans ((if_neg (show ¬jrN.length=0 by decide)).trans ((if_neg (show ¬nwN=jrN from fun q=>K9 q.symm)).trans (if_pos rfl)))
 ·obtain⟨m,hm,hc⟩:=hc;have hm:m<=D.acts.length+1:=by unfold turnedD at hm;simpa using hm
  by_cases hl:m<=D.acts.length
  ·rw[Fs _ hl]at hc;exact .inl ⟨m,hl,hc⟩
  ·obtain rfl:m=D.acts.length+1:=by omega
   rw[EU h _,e]at hc;obtain⟨n,h1,h2,h3⟩:=hc;have h1:(Ap D k).2<=n:=h1;have h2:n<=(Ap D k).1.length:=h2;have h3:c=(Ap D k).1.take n:=h3;refine .inr ?_;rw[h3,Ac7 (by omega)]
theorem La{b:Bs × Nat}{k:Nat}(hk:k<D.files.length):(D.files++ [b]).getD k ([],0)=Ap D k:=by
 unfold Ap;rw[AcA,AdM hk,<-AcA]
theorem GV{b:Bs × Nat}:(D.files++ [b]).getD D.files.length ([],0)=b:=by
 rw[AcA,AdD (Acy _),AgC];rfl
theorem LE(h:JOk D){s:Bs}(hs:s=jrN\/s=nwN)(b:Bs)(hn:lookD D.now s=none):Bg D s b = { turnedD D ⟨[],s,D.files.length⟩with files:=D.files++ [(b,0)] } /\ JOk (Bg D s b)/\∀t,lookD (Bg D s b).now t=if t=s then some D.files.length else lookD D.now t:=by
 have hm:Bn s=true:=by rcases hs with rfl | rfl <;> decide
 have hl:¬s.length=0:=by have:=(BQ hm).1;omega
 have e:Bg D s b = { turnedD D ⟨[],s,D.files.length⟩with files:=D.files++ [(b,0)] } :=by unfold Bg;rw[hn]
 have hln:∀t,lookD (turnD D.now ⟨[],s,D.files.length⟩) t=if t=s then some D.files.length else lookD D.now t:=fun t=>by
  rw[look_turn,if_neg hl];split
  ·rfl
  ·split
   ·rename_i q;have q:t= []:=q;rw[q,h.ok.now.noEmpty]
   ·rfl
 refine⟨e,⟨h.ok.add b hm,?_,h.inj.add h.ok s b,?_⟩,fun t=>by rw[e];exact hln t⟩
 ·rw[e];show dirM (turnedD D ⟨[],s,D.files.length⟩) (turnedD D ⟨[],s,D.files.length⟩).acts.length=_;have a:(turnedD D ⟨[],s,D.files.length⟩).acts.length=D.acts.length+1:=by unfold turnedD;simp
  rw[a,EU h];rfl
 ·rw[e];refine Mu h fun x hx=> ?_;rcases Gs hx with q | ⟨-,q⟩
  ·exact h.nmn x q
  ·rw[q];exact hs
theorem PK(h:JOk D){s:Bs}(hs:s=jrN\/s=nwN)(b:Bs)(hn:lookD D.now s=none){c:Bs}(hc:CC (Bg D s b) c):CC D c\/(s=jrN/\∃n,c=b.take n):=by
 obtain⟨e,-,hln⟩:=LE h hs b hn;obtain⟨m,hm,hc⟩:=hc;rw[e]at hm hc hln;have hm:m<=D.acts.length+1:=by unfold turnedD at hm;simpa using hm
 have hcut:∀ {o:Option Nat},(∀k,o=some k->k<D.files.length)->HY { turnedD D ⟨[],s,D.files.length⟩with files:=D.files++ [(b,0)] } o c->HY D o c:=fun {o} ho q=>by
  cases o with
  | none=>exact q
  | some k=>
   obtain⟨n,q1,q2,q3⟩:=q;have g:Ap { turnedD D ⟨[],s,D.files.length⟩with files:=D.files++ [(b,0)] } k=Ap D k:=La (ho k rfl);rw[g]at q1 q2 q3;exact⟨n,q1,q2,q3⟩
 by_cases hl:m<=D.acts.length
 ·have a:dirM { turnedD D ⟨[],s,D.files.length⟩with files:=D.files++ [(b,0)] } m=dirM D m:=Fs _ hl;rw[a]at hc;exact .inl ⟨m,hl,hcut (fun k hk=>((WN h m).look hk).1) hc⟩
 ·obtain rfl:m=D.acts.length+1:=by omega
  have a:dirM { turnedD D ⟨[],s,D.files.length⟩with files:=D.files++ [(b,0)] } (D.acts.length+1)=turnD D.now ⟨[],s,D.files.length⟩:=EU h _;rw[a]at hc;have f:=hln jrN;have f:lookD (turnD D.now ⟨[],s,D.files.length⟩) jrN=if jrN=s then some D.files.length else lookD D.now jrN:=f;rw[f]at hc;by_cases q:jrN=s
  ·rw[if_pos q]at hc;obtain⟨n,-,-,q3⟩:=hc;have i:Ap { turnedD D ⟨[],s,D.files.length⟩with files:=D.files++ [(b,0)] } D.files.length=(b,0):=GV;rw[i]at q3;exact .inr ⟨q.symm,n,q3⟩
  ·rw[if_neg q]at hc;exact .inl ⟨D.acts.length,Acy _,by rw[h.now];exact hcut (fun k hk=>(h.ok.now.look hk).1) hc⟩
theorem T2(h:JOk D)(b:Bs)(hn:lookD D.now nwN=none):JOk (Bg D nwN b)/\jc (Bg D nwN b)=jc D/\lookD (Bg D nwN b).now nwN=some D.files.length/\Ap (Bg D nwN b) D.files.length=(b,0)/\(∀c,CC (Bg D nwN b) c->CC D c):=by
 obtain⟨e,h1,h2⟩:=LE h (.inr rfl) b hn;refine⟨h1,?_,by rw[h2,if_pos rfl],by rw[e];exact GV,fun c hc=>(PK h (.inr rfl) b hn hc).resolve_right fun q=>K9 q.1.symm⟩;unfold jc;rw[h2,if_neg K9];cases hl:lookD D.now jrN with
 | none=>rfl
 | some k=>
  simp only;rw[e];exact congrArg Adr (La (h.ok.now.look hl).1)
def Fc(D:Aj)(k:Nat):Aj:= { D with files:=D.files.set k ((Ap D k).1,(Ap D k).1.length),kept:=D.now,acts:= [] }
theorem Gx(D:Aj)(k j:Nat):(Ap (Fc D k) j).1=(Ap D j).1/\((Ap (Fc D k) j).2=(Ap D j).2\/j=k)/\(k<D.files.length->(Ap (Fc D k) k).2=(Ap D k).1.length):=by
 by_cases hk:k<D.files.length
 ·by_cases e:k=j
  ·subst e;have a:Ap (Fc D k) k=((Ap D k).1,(Ap D k).1.length):=GU hk;rw[a];exact⟨rfl, .inr rfl,fun _=>rfl⟩
  ·have a:Ap (Fc D k) j=Ap D j:=JP e;have b:Ap (Fc D k) k=((Ap D k).1,(Ap D k).1.length):=GU hk;rw[a,b];exact⟨rfl, .inl rfl,fun _=>rfl⟩
 ·have a:(Fc D k).files=D.files:=by unfold Fc;exact List.set_eq_of_length_le (by omega)
  unfold Ap;rw[a];exact⟨rfl, .inl rfl,fun q=>absurd q hk⟩
theorem T3(h:JOk D){k:Nat}(hk:k<D.files.length):JOk (Fc D k)/\jc (Fc D k)=jc D/\(Ap (Fc D k) k).1=(Ap D k).1/\(Ap (Fc D k) k).2=(Ap D k).1.length/\(∀c,CC (Fc D k) c->CC D c)/\(lookD D.now jrN=some k->∀c,CC (Fc D k) c->c=jc D):=by
 refine⟨⟨h.ok.synced k,rfl,h.inj,fun m e he=>h.nmn e (by cases m <;> exact he)⟩,?_,(Gx D k k).1,(Gx D k k).2.2 hk,fun c hc=> ?_,fun hj c hc=> ?_⟩
 ·unfold jc;show(match lookD D.now jrN with | some j=>(Ap (Fc D k) j).1 | none=> [])=_;cases lookD D.now jrN with
  | none=>rfl
  | some j=>exact(Gx D k j).1
 ·obtain⟨m,hm,hc⟩:=hc;have hm:m<=0:=hm;obtain rfl:m=0:=by omega
  have hc:HY (Fc D k) (lookD D.now jrN) c:=hc;refine⟨D.acts.length,Acy _,?_⟩;rw[h.now];cases hl:lookD D.now jrN with
  | none=>rw[hl]at hc;exact hc
  | some j=>
   rw[hl]at hc;obtain⟨n,q1,q2,q3⟩:=hc;obtain⟨f1,f2,f3⟩:=Gx D k j;rw[f1]at q2 q3;refine⟨n,?_,q2,q3⟩;rcases f2 with f2 | rfl
   ·rw[f2]at q1;exact q1
   ·rw[f3 hk]at q1;exact Acw (h.ok.sync_le j) q1
 ·obtain⟨m,hm,hc⟩:=hc;have hm:m<=0:=hm;obtain rfl:m=0:=by omega
  have hc:HY (Fc D k) (lookD D.now jrN) c:=hc;rw[hj]at hc;obtain⟨n,q1,q2,q3⟩:=hc;obtain⟨f1,f2,f3⟩:=Gx D k k;rw[f1]at q2 q3;rw[f3 hk]at q1;rw[Ek hj,q3,Ac7 (by omega)]
theorem T5(h:JOk D)(b:Bs):JOk (Bg D jrN b)/\jc (Bg D jrN b)=jc D++b/\lookD (Bg D jrN b).now nwN=lookD D.now nwN/\(∃k,lookD (Bg D jrN b).now jrN=some k)/\∀c,CC (Bg D jrN b) c->CC D c\/∃n,c=jc D++b.take n:=by
 cases hl:lookD D.now jrN with
 | none=>
  obtain⟨e,h1,h2⟩:=LE h (.inl rfl) b hl;refine⟨h1,?_,by rw[h2,if_neg (fun q=>K9 q.symm)],⟨_,by rw[h2,if_pos rfl]⟩,fun c hc=>(PK h (.inl rfl) b hl hc).imp id fun⟨_,n,q⟩=>⟨n,by rw[F9 hl];exact q⟩⟩;rw[F9 hl,Ek (by rw[h2,if_pos rfl]),e];exact congrArg Adr GV
 | some k=>
  have hk:=(h.ok.now.look hl).1;have e:Bg D jrN b = { D with files:=D.files.set k ((Ap D k).1++b,(Ap D k).2) } :=by unfold Bg;rw[hl]
  have hf:∀j,Ap (Bg D jrN b) j=if j=k then((Ap D k).1++b,(Ap D k).2)else Ap D j:=fun j=>by
   rw[e];by_cases q:j=k
   ·subst q;rw[if_pos rfl];exact GU hk
   ·rw[if_neg q];exact JP (fun r=>q r.symm)
  have a:(Bg D jrN b).now=D.now:=by rw[e]
  refine⟨⟨h.ok.add b (by decide),?_,by rw[a];exact h.inj,by rw[e];exact h.nm⟩,?_,by rw[a],⟨k,by rw[a];exact hl⟩,fun c hc=> ?_⟩
  ·rw[e];exact h.now
  ·rw[Ek (by rw[a];exact hl),hf,if_pos rfl,Ek hl]
  ·obtain⟨m,hm,hc⟩:=hc;have hm:m<=D.acts.length:=by rw[e]at hm;exact hm
   have f:dirM (Bg D jrN b) m=dirM D m:=by rw[e];rfl
   rw[f]at hc;cases ho:lookD (dirM D m) jrN with
   | none=>rw[ho]at hc;exact .inl ⟨m,hm,by rw[ho];exact hc⟩
   | some j=>
    rw[ho]at hc;obtain⟨n,q1,q2,q3⟩:=hc;rw[hf]at q1 q2 q3;by_cases q:j=k
    ·subst q;rw[if_pos rfl]at q1 q2 q3;by_cases hn:n<=(Ap D j).1.length
     ·refine .inl ⟨m,hm,?_⟩;rw[ho];exact⟨n,q1,hn,by rw[q3];exact Aff hn⟩
     ·refine .inr ⟨n-(Ap D j).1.length,?_⟩;rw[q3,Ek hl];show((Ap D j).1++b).take n=_;rw[List.take_append,Ac7 (by omega)]
    ·rw[if_neg q]at q1 q2 q3;exact .inl ⟨m,hm,by rw[ho];exact⟨n,q1,q2,q3⟩⟩
theorem Mx{l:Bb}(hs:Dn l){s:Bs}:(∀ {k},lookD l s=some k->∃i,∃hi:i<l.length,l[i]=(s,k)/\lookD (CV l) s=some i)/\(lookD l s=none->lookD (CV l) s=none):=by
 refine⟨fun {k} h=> ?_,fun h=> ?_⟩
 ·obtain⟨i,hi,he⟩:=AdA.1 (EJ h);refine⟨i,hi,he,Hk (Mm hs) (e:=(s,i)) ?_⟩;unfold CV;rw[AfA];exact⟨i,hi,by rw[he]⟩
 ·rw[FE]at h ⊢;intro e he q;have h1:e.1∈(CV l).map Adr:=AeC he;rw[Gu]at h1;obtain⟨x,hx,hxe⟩:=Ado.1 h1;exact h x hx (hxe.trans q)
theorem UZ(h:JOk D)(l:List Int):JOk (Bo D l)/\CC D (jc (Bo D l))/\∀c,CC (Bo D l) c->c=jc (Bo D l):=by
 have hL:AH D l=dirM D (By l 0 (D.acts.length+1)):=rfl;have hm:By l 0 (D.acts.length+1)<=D.acts.length:=by have:=HT l 0 (n:=D.acts.length+1) (by omega);omega
 have hok:=h.ok.crash l;have hj:JOk (Bo D l):=⟨hok,rfl,InjD.num _,fun m e he=>by
  have he:e∈CV (AH D l):=by cases m <;> exact he
  have h1:e.1∈(CV (AH D l)).map Adr:=AeC he;rw[Gu]at h1;obtain⟨x,hx,hxe⟩:=Ado.1 h1;rw[<-hxe];exact h.nm _ x hx⟩
 have hs:Dn (AH D l):=(h.ok.left l).sort;have hcut:∀i k,∀hi:i<(AH D l).length,(AH D l)[i]=(jrN,k)->Ap (Bo D l) i=E7 D l i k:=fun i k hi he=>by
  show((AH D l).mapIdx fun i e=>E7 D l i e.2).getD i ([],0)=_;rw[AcA,List.getElem?_mapIdx,AcG hi,he];rfl
 cases hl:lookD (AH D l) jrN with
 | none=>
  have hn:lookD (Bo D l).now jrN=none:=(Mx hs).2 hl;refine⟨hj,⟨_,hm,?_⟩,fun c hc=> ?_⟩
  ·rw[<-hL,hl];exact F9 hn
  ·obtain⟨m,hm0,hc⟩:=hc;have hm0:m<=0:=hm0;obtain rfl:m=0:=by omega
   have hc:HY (Bo D l) (lookD (Bo D l).now jrN) c:=hc;rw[hn]at hc;rw[F9 hn];exact hc
 | some k=>
  obtain⟨i,hi,he,hn⟩:=(Mx hs).1 hl;have hn:lookD (Bo D l).now jrN=some i:=hn;have hf:=hcut i k hi he;have hcl:=Gt h.ok l i k;refine⟨hj,⟨_,hm,?_⟩,fun c hc=> ?_⟩
  ·rw[<-hL,hl];exact⟨(E7 D l i k).2,Aeh _ _,hcl.2,by rw[Ek hn,hf];rfl⟩
  ·obtain⟨m,hm0,hc⟩:=hc;have hm0:m<=0:=hm0;obtain rfl:m=0:=by omega
   have hc:HY (Bo D l) (lookD (Bo D l).now jrN) c:=hc;rw[hn]at hc;obtain⟨n,q1,q2,q3⟩:=hc;rw[hf]at q1 q2 q3;rw[Ek hn,hf,q3,Ac7 (by omega)]
end
structure Up (D D' : Aj) : Prop where
 down:D'.down=false
 ok:JOk D'
 arm:D.arm=0->D'.arm=0
 quota:D'.quota=D.quota
theorem Up.trans{D D1 D2:Aj}(h:Up D D1)(k:Up D1 D2):Up D D2:=⟨k.down,k.ok,fun q=>k.arm (h.arm q),k.quota.trans h.quota⟩
def Res(D:Aj)(P:Bs->Prop)(r:Aj × Nat)(Q8 Q0:Aj->Prop):Prop:=
 (r.2=9/\r.1.down=true/\D.arm≠0/\JOk r.1/\Safe P r.1)\/(r.2=8/\Q8 r.1)\/(r.2=0/\Up D r.1/\Safe P r.1/\Q0 r.1)
section
variable {D D1 : Aj} {P : Bs -> Prop} {Q8 Q0 R8 R0 : Aj -> Prop}
theorem Res.cons{a:JA}{l:List JA}(h:Res D P (BB D a) Q8 Q0)(h8:∀E,Q8 E->R8 E)(h0:∀D1,Up D D1->Safe P D1->Q0 D1->Res D1 P (AL D1 l) R8 R0):Res D P (AL D (a :: l)) R8 R0:=by
 rw[EK];rcases h with ⟨h1,h2⟩ | ⟨h1,h2⟩ | ⟨h1,h2,h3,h4⟩
 ·rw[if_pos (by omega)];exact .inl ⟨h1,h2⟩
 ·rw[if_pos (by omega)];exact .inr (.inl ⟨h1,h8 _ h2⟩)
 ·rw[if_neg (fun q=>q h1)];rcases h0 _ h2 h3 h4 with ⟨k1,k2,k3,k4⟩ | k | ⟨k1,k2,k3⟩
  ·exact .inl ⟨k1,k2,fun q=>k3 (h2.arm q),k4⟩
  ·exact .inr (.inl k)
  ·exact .inr (.inr ⟨k1,h2.trans k2,k3⟩)
theorem Res.nil(h:Up D D)(hs:Safe P D)(h0:R0 D):Res D P (AL D []) R8 R0:= .inr (.inr ⟨rfl,h,hs,h0⟩)
theorem Res.mono{r:Aj × Nat}(h:Res D P r Q8 Q0)(h8:∀E,Q8 E->R8 E)(h0:∀E,Up D E->Safe P E->Q0 E->R0 E):Res D P r R8 R0:=by
 rcases h with h | ⟨h1,h2⟩ | ⟨h1,h2,h3,h4⟩
 ·exact .inl h
 ·exact .inr (.inl ⟨h1,h8 _ h2⟩)
 ·exact .inr (.inr ⟨h1,h2,h3,h0 _ h2 h3 h4⟩)
theorem Res.one{a:JA}(h:Res D P (BB D a) Q8 Q0):Res D P (AL D [a]) Q8 Q0:=h.cons (fun _ q=>q) fun D1 h1 h2 h3=>Res.nil ⟨h1.down,h1.ok,id,rfl⟩ h2 h3
theorem Z8{f:Aj->Aj}(hd:D.down=false)(hj:JOk D)(hs:Safe P D)(hf:∀E,EqD D E->E.down=false->(D.arm=0->E.arm=0)->E.refused=D.refused->Up D (f E)/\Safe P (f E)/\Q0 (f E)):Res D P (Ds D f) Q8 Q0:=by
 have he:=WM D;unfold Ds;rcases Ta hd with ⟨h1,h2,h3⟩ | ⟨h1,h2,h3⟩
 ·rw[if_pos h1];exact .inl ⟨rfl,h2,h3,he.ok hj,he.safe hs⟩
 ·rw[if_neg (by rw[h1];decide)];exact .inr (.inr ⟨rfl,hf _ he h2 h3 (Ej D).2.2.2.2.2⟩)
theorem Jk{s t:Bs}{k:Nat}(hd:D.down=false)(hs:Bn s=true)(ht:Bn t=true)(hk:lookD D.now s=some k):E6 D s t = .ok k:=by
 unfold E6;rw[if_neg (by rw[IV hd hs ht];exact fun q=>q rfl),hk]
theorem My{s t:Bs}(hd:D.down=false)(hs:Bn s=true)(ht:Bn t=true)(hk:lookD D.now s=none):E6 D s t = .error 4:=by
 unfold E6;rw[if_neg (by rw[IV hd hs ht];exact fun q=>q rfl),hk]
theorem Up.refl(hd:D.down=false)(hj:JOk D):Up D D:=⟨hd,hj,id,rfl⟩
theorem H0(hd:D.down=false)(hn:lookD D.now nwN=none):BB D .clear=(D,0):=by
 have h:BF D nwN=(D,4):=by unfold BF;rw[My hd (by decide) (by decide) hn]
 show(if(BF D nwN).2=4 then((BF D nwN).1,0)else BF D nwN)=_;rw[h];rfl
theorem A1(hd:D.down=false)(hj:JOk D)(hs:Safe P D):Res D P (BB D .clear) (fun _=>False) fun E=>jc E=jc D/\lookD E.now nwN=none/\E.refused=D.refused:=by
 cases hn:lookD D.now nwN with
 | none=>
  rw[H0 hd hn];exact .inr (.inr ⟨rfl,Up.refl hd hj,hs,rfl,hn,rfl⟩)
 | some k=>
  have h:BF D nwN=Ds D fun d=>turnedD d ⟨nwN,[],k⟩:=by unfold BF;rw[Jk hd (by decide) (by decide) hn]
  have hr:Res D P (BF D nwN) (fun _=>False) fun E=>jc E=jc D/\lookD E.now nwN=none/\E.refused=D.refused:=by
   rw[h];refine Z8 hd hj hs fun E he hE ha hr=> ?_;obtain⟨t1,t2,t3,t4⟩:=T1 (he.ok hj) (k:=k) (by rw[he.now];exact hn);exact⟨⟨hE,t1,ha,he.quota⟩,fun c hc=>hs c ((he.cc c).1 (t4 c hc)),t2.trans he.jc,t3,hr⟩
  have hne:(BF D nwN).2≠4:=by
   rcases hr with ⟨q,_⟩ | ⟨q,_⟩ | ⟨q,_⟩ <;> omega
  have e:BB D .clear=BF D nwN:=if_neg hne;rw[e];exact hr
theorem Lb{s b:Bs}(hd:D.down=false)(hj:JOk D)(hs:Safe P D)(hm:Bn s=true)(hq:∀E,EqD D E->E.down=false->(D.arm=0->E.arm=0)->E.refused=D.refused->Up D (Bg E s b)/\Safe P (Bg E s b)/\Q0 (Bg E s b)):
  Res D P (BU D s b) (fun E=>E = { D with refused:=D.refused+1 } /\ D.quota<usedD D+b.length) Q0:=by
 unfold BU;rw[if_neg (by rw[IV hd hm hm];exact fun q=>q rfl)];split
 ·rename_i h;exact .inr (.inl ⟨rfl,rfl,h⟩)
 ·exact Z8 (f:=fun E=>Bg E s b) hd hj hs hq
theorem A2{b:Bs}(hd:D.down=false)(hj:JOk D)(hs:Safe P D)(hn:lookD D.now nwN=none):Res D P (BB D (.app nwN b)) (fun E=>E = { D with refused:=D.refused+1 } /\ D.quota<usedD D+b.length) fun E=>jc E=jc D/\(∃k,lookD E.now nwN=some k/\k<E.files.length/\Ap E k=(b,0))/\E.refused=D.refused:=
 Lb hd hj hs (by decide) fun E he hE ha hr=>by
  obtain⟨t1,t2,t3,t4,t5⟩:=T2 (he.ok hj) b (by rw[he.now];exact hn);have ha2:=PJ E nwN b;refine⟨⟨ha2.2.trans hE,t1,fun q=>ha2.1.trans (ha q),?_⟩,fun c hc=>hs c ((he.cc c).1 (t5 c hc)),t2.trans he.jc,⟨_,t3,(t1.ok.now.look t3).1,t4⟩,?_⟩
  ·rw[<-he.quota];unfold Bg;split <;> rfl
  ·rw[<-hr];unfold Bg;split <;> rfl
theorem A3{s:Bs}{k:Nat}(hm:Bn s=true)(hd:D.down=false)(hj:JOk D)(hs:Safe P D)(hk:lookD D.now s=some k)(Q:Bs->Prop)(hQ:s=jrN->Q (jc D)):Res D P (BB D (.sync s)) (fun _=>False) fun E=>jc E=jc D/\E.now=D.now/\(Ap E k).1=(Ap D k).1/\(Ap E k).2=(Ap D k).1.length/\E.refused=D.refused/\(s=jrN->Safe Q E):=by
 have h:Cf D s=Ds D fun d=>Fc d k:=by unfold Cf;rw[Jk hd hm hm hk];rfl
 show Res D P (Cf D s) _ _;rw[h];refine Z8 hd hj hs fun E he hE ha hr=> ?_;have a:lookD E.now s=some k:=by rw[he.now];exact hk
 obtain⟨t1,t2,t3,t4,t5,t6⟩:=T3 (he.ok hj) ((he.ok hj).ok.now.look a).1;have hf:Ap E k=Ap D k:=by unfold Ap;rw[he.files]
 rw[hf]at t3 t4;refine⟨⟨hE,t1,ha,he.quota⟩,fun c hc=>hs c ((he.cc c).1 (t5 c hc)),t2.trans he.jc,he.now,t3,t4,hr,fun e c hc=> ?_⟩;subst e;rw[t6 a c hc,he.jc];exact hQ rfl
theorem A4{b:Bs}{k:Nat}(hd:D.down=false)(hj:JOk D)(hs:Safe P D)(hk:lookD D.now nwN=some k)(hf:Ap D k=(b,b.length))(hb:P b):Res D P (BB D .move) (fun _=>False) fun E=>jc E=b/\lookD E.now nwN=none/\(∃j,lookD E.now jrN=some j)/\E.refused=D.refused:=by
 have h:De D nwN jrN=Ds D fun d=>turnedD d ⟨nwN,jrN,k⟩:=by unfold De;rw[Jk hd (by decide) (by decide) hk]
 show Res D P (De D nwN jrN) _ _;rw[h];refine Z8 hd hj hs fun E he hE ha hr=> ?_;have hfE:Ap E k=(b,b.length):=by unfold Ap;rw[he.files];exact hf
 obtain⟨t1,t2,t3,t4,t5⟩:=T4 (he.ok hj) (k:=k) (by rw[he.now];exact hk) (by rw[hfE]);rw[hfE]at t2 t5;exact⟨⟨hE,t1,ha,he.quota⟩,fun c hc=>(t5 c hc).elim (fun q=>hs c ((he.cc c).1 q)) fun q=>q▸hb,t2,t3,t4,hr⟩
theorem A6{b:Bs}(hd:D.down=false)(hj:JOk D)(hs:Safe P D)(hp:∀n,P (jc D++b.take n)):Res D P (BB D (.app jrN b)) (fun E=>E = { D with refused:=D.refused+1 } /\ D.quota<usedD D+b.length) fun E=>jc E=jc D++b/\lookD E.now nwN=lookD D.now nwN/\(∃k,lookD E.now jrN=some k)/\E.refused=D.refused:=
 Lb hd hj hs (by decide) fun E he hE ha hr=>by
  obtain⟨t1,t2,t3,t4,t5⟩:=T5 (he.ok hj) b;have ha2:=PJ E jrN b;rw[he.jc]at t2 t5;refine⟨⟨ha2.2.trans hE,t1,fun q=>ha2.1.trans (ha q),?_⟩,fun c hc=>(t5 c hc).elim (fun q=>hs c ((he.cc c).1 q)) fun⟨n,q⟩=>q▸hp n,t2,by rw[t3,he.now],t4,?_⟩
  ·rw[<-he.quota];unfold Bg;split <;> rfl
  ·rw[<-hr];unfold Bg;split <;> rfl
theorem U0{r:Aq}(hd:D.down=false)(hj:JOk D)(hs:Safe P D):Res D P (Bi D r) (fun E=>Up D E/\Safe P E/\jc E=jc D/\lookD E.now nwN=none/\E.refused=D.refused+1/\E.quota<usedD E+(wholeB r).length) fun E=>jc E=jc D/\(∃k,lookD E.now nwN=some k/\k<E.files.length/\Ap E k=(wholeB r,0))/\E.refused=D.refused:=
 (A1 hd hj hs).cons (fun _ q=>q.elim) fun D1 u1 s1 ⟨q1,q2,q3⟩=>(Res.one (A2 (b:=wholeB r) u1.down u1.ok s1 q2)).mono (fun E ⟨e,h⟩=>by
  have he:EqD D1 E:=by subst e;exact⟨rfl,rfl,rfl,rfl,rfl⟩
  refine⟨⟨by rw[e];exact u1.down,he.ok u1.ok,fun q=>by rw[e];exact u1.arm q,he.quota.trans u1.quota⟩,he.safe s1,he.jc.trans q1,by rw[he.now];exact q2,by rw[e];show D1.refused+1=_;rw[q3],?_⟩;rw[he.used,he.quota];exact h) fun E u s ⟨k1,k2,k3⟩=>⟨k1.trans q1,k2,k3.trans q3⟩
theorem Tc{b:Bs}{k:Nat}(hd:D.down=false)(hj:JOk D)(hs:Safe P D)(hk:lookD D.now nwN=some k)(hf:Ap D k=(b,0))(hb:P b)(Q:Bs->Prop)(hQ:Q b):Res D P (Do D) (fun _=>False) fun E=>jc E=b/\lookD E.now nwN=none/\E.refused=D.refused/\Safe Q E:=
 (A3 (by decide) hd hj hs hk (fun _=>True) fun _=>trivial).cons (fun _ q=>q.elim) fun D1 u1 s1 ⟨q1,q2,q3,q4,q5,_⟩=>by
  have hf1:Ap D1 k=(b,b.length):=by
   rw[hf]at q3 q4;exact Prod.ext q3 q4
  refine(A4 u1.down u1.ok s1 (by rw[q2];exact hk) hf1 hb).cons (fun _ q=>q.elim) fun D2 a s2 ⟨r1,r2,⟨j,r3⟩,r4⟩=> ?_;exact(Res.one (A3 (by decide) a.down a.ok s2 r3 Q fun _=>by rw[r1];exact hQ)).mono (fun _ q=>q) fun E u s ⟨t1,t2,t3,t4,t5,t6⟩=>⟨t1.trans r1,by rw[t2];exact r2,(t5.trans r4).trans q5,t6 rfl⟩
theorem Od{b:Bs}(hd:D.down=false)(hj:JOk D)(hs:Safe P D)(hp:∀n,P (jc D++b.take n))(Q:Bs->Prop)(hQ:Q (jc D++b)):Res D P (DP D b) (fun E=>E = { D with refused:=D.refused+1 } /\ D.quota<usedD D+b.length) fun E=>jc E=jc D++b/\lookD E.now nwN=lookD D.now nwN/\E.refused=D.refused/\Safe Q E:=
 (A6 hd hj hs hp).cons (fun _ q=>q) fun D1 u1 s1 ⟨q1,q2,⟨k,q3⟩,q4⟩=>(Res.one (A3 (by decide) u1.down u1.ok s1 q3 Q fun _=>by rw[q1];exact hQ)).mono (fun _ q=>q.elim) fun E u s ⟨t1,t2,t3,t4,t5,t6⟩=>⟨t1.trans q1,by rw[t2];exact q2,t5.trans q4,t6 rfl⟩
end
structure XR (D : Aj) (J : Jn) (P : Bs -> Prop) (r : Aj × Jn × Nat) : Prop where
 out:(r.2.2=9/\r.1.down=true/\D.arm≠0/\JOk r.1/\Safe P r.1/\r.2.1=F2 J 9) \/
  (r.2.2=8/\Up D r.1/\Safe P r.1/\jc r.1=jc D/\lookD r.1.now nwN=none/\r.1.refused=D.refused+1/\r.2.1=J/\r.1.quota<usedD r.1+(wholeB J.refs).length) \/
  (r.2.2=0/\Up D r.1/\Safe P r.1/\jc r.1=wholeB J.refs/\lookD r.1.now nwN=none/\r.1.refused=D.refused/\r.2.1=⟨J.refs,(wholeB J.refs).length,false,J.lost⟩)
theorem QY{D:Aj}{J:Jn}{P:Bs->Prop}(hd:D.down=false)(hj:JOk D)(hs:Safe P D)(hb:P (wholeB J.refs)):XR D J P (AE D J):=by
 refine⟨?_⟩;unfold AE;rcases U0 (r:=J.refs) hd hj hs with ⟨h1,h2,h3,h4,h5⟩ | ⟨h1,h2,h3,h4,h5,h6,h7⟩ | ⟨h1,h2,h3,h4,⟨k,h5,h6,h7⟩,h8⟩
 ·rw[if_neg (by omega),if_pos (by omega)];exact .inl ⟨h1,h2,h3,h4,h5,by rw[h1]⟩
 ·rw[if_pos h1];have hc:AL (Bi D J.refs).1 [.clear]=((Bi D J.refs).1,0):=by rw[EK,H0 h2.down h5];rfl
  unfold Nb;rw[hc];exact .inr (.inl ⟨rfl,h2,h3,h4,h5,h6,rfl,h7⟩)
 ·rw[if_neg (by omega),if_neg (by omega)];unfold QH;rcases Tc h2.down h2.ok h3 h5 h7 hb (fun _=>True) trivial with ⟨k1,k2,k3,k4,k5⟩ | ⟨_,k⟩ | ⟨k1,k2,k3,k4,k5,k6,k7⟩
  ·rw[if_pos (by omega)];exact .inl ⟨k1,k2,fun q=>k3 (h2.arm q),k4,k5,by rw[k1]⟩
  ·exact k.elim
  ·rw[if_neg (by omega)];exact .inr (.inr ⟨rfl,h2.trans k2,k3,k4,k5,k6.trans h8,rfl⟩)
theorem LF{D:Aj}(h:JOk D)(hn:lookD D.now nwN=none):usedD D=(jc D).length:=by
 have hall:∀e∈D.now,e.1=jrN:=fun e he=>(h.nmn e he).resolve_right fun q=>by
  have:=Hk h.ok.now.sort he;rw[q,hn]at this;cases this
 have hs:=h.ok.now.sort;unfold usedD jc
 match hl:D.now,hs,hall with
 | [],_,_=>rfl
 | [e],_,ha=>
  have he:=ha e AdH;rw[Ci,if_pos he];simp
 | e :: f :: l,hs,ha=>
  have h1:=ha e AdH;have h2:=ha f (AdF _ AdH);have h3:=(AeK.1 hs).1 f AdH;rw[h1,h2,FD]at h3;cases h3
end Go.Proofs.YtbbbblinjomajaaGreatDoor
