/- Part 4 of what stands behind these statements: laws and walks of the functions that are reached. Conditions: those that each theorem names. -/
import Derived.Test.YtbbbblinjomajaaGreatDoorF3
set_option linter.unusedVariables false
set_option linter.unusedSimpArgs false
namespace Go.Proofs.YtbbbblinjomajaaGreatDoor
open _root_.Go.Op renaming bytesLess->Adg
open _root_.List renaming le_antisymm->AgT,mem_cons_self->AdT,mem_cons_of_mem->AdR,pairwise_cons->AeZ,mem_cons->Adl,cons_append->Ade,filter_cons_of_neg->Ag1,filter_cons_of_pos->Ag2,takeWhile_append_dropWhile->Afi,filter_sublist->AhM,dropWhile_cons->AhN,takeWhile_cons->Afh,pairwise_append->AfH,takeWhile_sublist->Afu,dropWhile_sublist->Afv,length_append->AcJ,length_cons->AcV,mem_append->Adt,map_cons->AcX,mem_map_of_mem->AeR,mem_map->AdC,perm_ext_iff_of_nodup->AgB,length_map->Ad5,size_toArray->Adi,map_map->AgV,map_congr_left->AhO,filter_eq_self->Age,eq_nil_of_length_eq_zero->AdB,getD_eq_getElem?_getD->AcL,getElem?_eq_getElem->AcQ,getElem_mem->Aee,getElem?_eq_none->Ad8,mem_singleton->Adn,length_set->AeO,mem_or_eq_of_mem_set->Afa,length_take->Ac4,mem_mapIdx->AfR,take_sublist->AfY,length_mapIdx->AfV,length_singleton->Adh,getElem?_append_right->AdO,getElem?_append_left->Ad1,getElem?_set_self->Aho,getElem?_set_ne->AhB,flatMap_cons->Adz,all_eq_true->Ady,take_succ_eq_append_getElem->Ad7,all_append->Aha,map_toArray->AcT,map_nil->Ac2,all_cons->AhE,toArray->Adf,nil_append->Adm,mem_iff_getElem->AdM,pairwise_iff_getElem->AeK,drop_eq_nil_of_le->Ahq,append_toArray->Adu,getElem_mapIdx->AhP
open _root_.List.Pairwise renaming sublist->Aht,of_map->AfI,map->AgG
open _root_.Bool renaming eq_false_iff->AgF,false_eq_true->Aec,and_eq_true->Ada
open _root_.Int renaming emod->Ae6,toNat_natCast->Ac8,tmod->Afw
open _root_.Go renaming MapEntry->Ae5,Program->AcY,TypeId->AcK,Value->AcD,World->AcE,Operand->AcO,binOp->Ado
open _root_.Nat renaming le_refl->AcI,lt_of_lt_of_le->Ad3,zero_le->AcZ,le_trans->AcG,sub_self->AgX,zero_add->Aem,add_mul->Ad2,not_lt_zero->AdN,le_of_ble_eq_true->AcP,min_eq_left->Afo,lt_irrefl->AgA,mul_le_mul_left->AfO,le_succ_of_le->AgI,le_succ->Agr
open _root_.Array renaming getElem?_eq_some_iff->Adr,toList_filter->Agf,filter->AhY,getElem?_setIfInBounds->Aez
open _root_.Prod renaming fst->AdE
open _root_.Go.Sem renaming run_bind->AcN,run_pure->AcR,run->Af6
open _root_.Go.Result renaming andThen_ok->AcM,andThen->Adw
open _root_.Go.RowKit.Below renaming refl->AdA
open _root_.Go.Instr renaming next->AfF,buildSlice->Adc,build->AdI
open _root_.Go.World.grownBy renaming refl->Adb
open _root_.Option.some renaming inj->Ac9
open _root_.Go.World renaming ownsRow_nil->Aej,block_lt_of_cell?->AdP,ownsRow->AhH
open _root_.Go.Proofs.Tryz renaming prog->AcF,underlying4->Af2,isAgg4->Ah9,sizeOf4->AhZ,zeroValue4->Ahf,underlying0->AgZ,isAgg0->Aia,sizeOf0->Ah0,zeroValue0->Ahg,underlying9->Af3,isAgg9->Ahp,sizeOf9->Ag0,zeroValue9->Agb,underlying114->Agu,isAgg114->AhG,sizeOf114->Ahu,zeroValue114->AgH
open _root_.Go.Value renaming slice->AcU,ownBlock->Adp,int->AeY
open Go.RowKit
abbrev Bc:=List (Aib × Nat)
def lookD:Bc->Aib->Option Nat
 | [],_=>none
 | e :: r,s=>if e.1=s then some e.2 else lookD r s
theorem Cj(e:Aib × Nat)(r:Bc)(s:Aib):lookD (e :: r) s=if e.1=s then some e.2 else lookD r s:=rfl
def Hq(l:Bc)(s:Aib):Bc:=l.filter fun e=> !decide (e.1=s)
def Gv(l:Bc)(s:Aib)(k:Nat):Bc:=l.takeWhile (fun e=>Adg e.1 s)++(s,k) :: l.dropWhile (fun e=>Adg e.1 s)
structure BQ where
 frm:Aib
 to:Aib
 file:Nat
def turnD(l:Bc)(a:BQ):Bc:=if a.to.length=0 then Hq l a.frm else Gv (Hq (Hq l a.frm) a.to) a.to a.file
def Dr(l:Bc):Prop:=l.Pairwise fun a b=>Adg a.1 b.1=true
theorem NX{a b c:Aib}(h:Adg a b=true)(k:Adg b c=true):Adg a c=true:=by
 rw[bytesLess_eq,decide_eq_true_eq]at *;exact List.lt_trans h k
theorem FM(a:Aib):Adg a a=false:=by
 rw[bytesLess_eq];exact decide_eq_false (List.lt_irrefl a)
theorem UH{a b:Aib}(h:Adg a b=false)(hne:b≠a):Adg b a=true:=by
 rw[bytesLess_eq,decide_eq_false_iff_not]at h;rw[bytesLess_eq,decide_eq_true_eq];have h:b<=a:=h;rcases List.le_total a b with h2 | h2
 ·exact absurd (AgT h h2) hne
 ·exact Classical.byContradiction fun hn=>hne (AgT h hn)
theorem FN{l:Bc}{s:Aib}:lookD l s=none↔∀e∈l,e.1≠s:=by
 induction l with
 | nil=>simp[lookD]
 | cons e r ih=>
  rw[Cj];by_cases h:e.1=s
  ·simp[h]
  ·simp[h,ih]
theorem EL{l:Bc}{s:Aib}{k:Nat}(h:lookD l s=some k):(s,k)∈l:=by
 induction l with
 | nil=>cases h
 | cons e r ih=>
  rw[Cj]at h;split at h
  ·rename_i he
   cases h;rw[<-he];exact AdT
  ·exact AdR _ (ih h)
theorem Hr{l:Bc}(hs:Dr l){e:Aib × Nat}(h:e∈l):lookD l e.1=some e.2:=by
 induction l with
 | nil=>cases h
 | cons x r ih=>
  obtain⟨h1,h2⟩:=AeZ.1 hs;rw[Cj];rcases Adl.1 h with rfl | h
  ·exact if_pos rfl
  ·have:=h1 e h;rw[if_neg (fun he=>by rw[he,FM]at this;cases this)];exact ih h2 h
theorem HY{l r:Bc}{s:Aib}:lookD (l++r) s=(lookD l s).or (lookD r s):=by
 induction l with
 | nil=>rfl
 | cons e l ih=>
  rw[Ade,Cj,Cj];by_cases h:e.1=s
  ·rw[if_pos h,if_pos h];rfl
  ·rw[if_neg h,if_neg h];exact ih
theorem Jj(l:Bc)(s t:Aib):lookD (Hq l s) t=if t=s then none else lookD l t:=by
 induction l with
 | nil=>simp[Hq,lookD]
 | cons e r ih=>
  unfold Hq at ih ⊢;by_cases h:e.1=s
  ·rw[Ag1 (by simp[h]),ih];split
   ·rfl
   ·rename_i ht
    rw[Cj,if_neg (fun he=>ht (he.symm.trans h))]
  ·rw[Ag2 (by simp[h])];rw[Cj,Cj];by_cases he:e.1=t
   ·rw[if_pos he,if_pos he,if_neg (fun ht=>h (he.trans ht))]
   ·rw[if_neg he,if_neg he];exact ih
theorem UI{l:Bc}{s:Aib}(k:Nat)(h:lookD l s=none)(t:Aib):lookD (Gv l s k) t=if t=s then some k else lookD l t:=by
 have hl:l=l.takeWhile (fun e=>Adg e.1 s)++l.dropWhile (fun e=>Adg e.1 s):=(Afi).symm;have hn:=h;rw[hl,HY]at hn;unfold Gv;rw[HY];rw[Cj];simp only;by_cases ht:t=s
 ·subst ht;rw[if_pos rfl,if_pos rfl];cases h2:lookD (l.takeWhile fun e=>Adg e.1 t) t with
  | none=>rfl
  | some x=>rw[h2]at hn;cases hn
 ·rw[if_neg (fun e=>ht e.symm),if_neg ht]
  conv=>rhs;rw[hl,HY]
theorem Ly{l:Bc}(h:Dr l)(s:Aib):Dr (Hq l s):=Aht (AhM) h
theorem Wy{l:Bc}{s:Aib}(hs:Dr l)(h:lookD l s=none):∀e∈l.dropWhile (fun e=>Adg e.1 s),Adg s e.1=true:=by
 induction l with
 | nil=>intro e he;cases he
 | cons x r ih=>
  obtain⟨h1,h2⟩:=AeZ.1 hs;have h3:=FN.1 h;intro e he;by_cases hx:Adg x.1 s=true
  ·rw[AhN,if_pos hx]at he;exact ih h2 (FN.2 fun y hy=>h3 y (AdR _ hy)) e he
  ·rw[AhN,if_neg hx]at he;have hxs:=UH (AgF.2 hx) (fun q=>h3 x AdT q.symm);rcases Adl.1 he with rfl | he
   ·exact hxs
   ·exact NX hxs (h1 e he)
theorem Wz{l:Bc}{s:Aib}:∀e∈l.takeWhile (fun e=>Adg e.1 s),Adg e.1 s=true:=by
 induction l with
 | nil=>intro e he;cases he
 | cons x r ih=>
  intro e he;by_cases hx:Adg x.1 s=true
  ·rw[Afh,if_pos hx]at he;rcases Adl.1 he with rfl | he
   ·exact hx
   ·exact ih e he
  ·rw[Afh,if_neg hx]at he;cases he
theorem UJ{l:Bc}{s:Aib}(k:Nat)(hs:Dr l)(h:lookD l s=none):Dr (Gv l s k):=by
 unfold Gv Dr;have h1:=Wy hs h;have h2:=Wz (l:=l) (s:=s);rw[AfH];refine⟨hs.sublist (Afu _),AeZ.2 ⟨fun e he=>h1 e he,hs.sublist (Afv _)⟩,fun a ha b hb=> ?_⟩;rcases Adl.1 hb with rfl | hb
 ·exact h2 a ha
 ·exact NX (h2 a ha) (h1 b hb)
theorem NY(l:Bc)(a b:Aib):lookD (Hq (Hq l a) b) b=none:=by rw[Jj,if_pos rfl]
theorem look_turn(l:Bc)(a:BQ)(t:Aib):lookD (turnD l a) t=if a.to.length=0 then(if t=a.frm then none else lookD l t)else if t=a.to then some a.file else if t=a.frm then none else lookD l t:=by
 unfold turnD;by_cases h:a.to.length=0
 ·rw[if_pos h,if_pos h,Jj]
 ·rw[if_neg h,if_neg h,UI _ (NY _ _ _)];by_cases ht:t=a.to
  ·rw[if_pos ht,if_pos ht]
  ·rw[if_neg ht,if_neg ht,Jj,if_neg ht,Jj]
theorem SX{l:Bc}(h:Dr l)(a:BQ):Dr (turnD l a):=by
 unfold turnD;split
 ·exact Ly h _
 ·exact UJ _ (Ly (Ly h _) _) (NY _ _ _)
theorem SY(l:Bc)(s:Aib):(Hq l s).length<=l.length:=List.length_filter_le _ _
theorem WA(l:Bc)(s:Aib)(k:Nat):(Gv l s k).length=l.length+1:=by
 unfold Gv;have h:(l.takeWhile (fun e=>Adg e.1 s)++l.dropWhile (fun e=>Adg e.1 s)).length=l.length:=by rw[Afi]
 rw[AcJ]at h;rw[AcJ,AcV];omega
theorem NZ(l:Bc)(a:BQ):(turnD l a).length<=l.length+1:=by
 have h1:=SY l a.frm;have h2:=SY (Hq l a.frm) a.to;unfold turnD;split
 ·omega
 ·rw[WA];omega
theorem IT{l:Bc}{s:Aib}{e:Aib × Nat}(h:e∈Hq l s):e∈l:=(List.mem_filter.1 h).1
theorem WB{l:Bc}{s:Aib}{k:Nat}{e:Aib × Nat}(h:e∈Gv l s k):e∈l\/e=(s,k):=by
 unfold Gv at h;rcases Adt.1 h with h | h
 ·exact .inl ((Afu _).subset h)
 ·rcases Adl.1 h with h | h
  ·exact .inr h
  ·exact .inl ((Afv _).subset h)
theorem Gw{l:Bc}{a:BQ}{e:Aib × Nat}(h:e∈turnD l a):e∈l\/(a.to.length≠0/\e=(a.to,a.file)):=by
 unfold turnD at h;split at h
 ·exact .inl (IT h)
 ·rename_i hn
  rcases WB h with h | h
  ·exact .inl (IT (IT h))
  ·exact .inr ⟨hn,h⟩
structure Al where
 quota:Nat
 files:List (Aib × Nat)
 now:Bc
 kept:Bc
 acts:List BQ
 refused:Nat
 arm:Nat
 down:Bool
def Bn(s:Aib):Bool:=decide (1<=s.length)&&decide (s.length<=80)
def Cy(d:Al)(a b:Aib):Nat:=if d.down=true then 9 else if Bn a=true/\Bn b=true then 0 else 10
def Aq(d:Al)(k:Nat):Aib × Nat:=d.files.getD k ([],0)
def usedD(d:Al):Nat:=(d.now.map fun e=>(Aq d e.2).1.length).sum
def B0(d:Al):Al × Bool:=if d.arm=0 then(d,false)else({ d with arm:=d.arm-1,down:=decide (d.arm-1=0) },decide (d.arm-1=0))
def turnedD(d:Al)(a:BQ):Al:= { d with now:=turnD d.now a,acts:=d.acts++ [a] }
def Bg(d:Al)(s b:Aib):Al:=
 match lookD d.now s with
 | some k=> { d with files:=d.files.set k ((Aq d k).1++b,(Aq d k).2) }
 | none=> { turnedD d ⟨[],s,d.files.length⟩with files:=d.files++ [(b,0)] }
def BV(d:Al)(s b:Aib):Al × Nat:=
 if Cy d s s≠0 then(d,Cy d s s)
 else if d.quota<usedD d+b.length then({ d with refused:=d.refused+1 },8)
 else if(B0 d).2=true then((B0 d).1,9)else(Bg (B0 d).1 s b,0)
def Fa(d:Al)(a b:Aib):Except Nat Nat:=if Cy d a b≠0 then .error (Cy d a b)else match lookD d.now a with | some k=> .ok k | none=> .error 4
def Dx(d:Al)(f:Al->Al):Al × Nat:=if(B0 d).2=true then((B0 d).1,9)else(f (B0 d).1,0)
def Ch(d:Al)(s:Aib):Al × Nat:=
 match Fa d s s with
 | .error e=>(d,e)
 | .ok k=>Dx d fun d=> { d with files:=d.files.set k ((Aq d k).1,(Aq d k).1.length),kept:=d.now,acts:= [] }
def Dh(d:Al)(s t:Aib):Al × Nat:=
 match Fa d s t with
 | .error e=>(d,e)
 | .ok k=>Dx d fun d=>turnedD d ⟨s,t,k⟩
def BF(d:Al)(s:Aib):Al × Nat:=
 match Fa d s s with
 | .error e=>(d,e)
 | .ok k=>Dx d fun d=>turnedD d ⟨s,[],k⟩
def Bk(d:Al)(s:Aib):Aib × Nat:=
 match Fa d s s with
 | .error e=>([],e)
 | .ok k=>((Aq d k).1,0)
def Bz(l:List Int)(i n:Nat):Nat:=if i<l.length then(Ae6 (l.getD i 0) ((n:Nat):Int)).toNat else 0
def AG(d:Al)(l:List Int):Bc:=(d.acts.take (Bz l 0 (d.acts.length+1))).foldl turnD d.kept
def Fb(d:Al)(l:List Int)(i:Nat)(k:Nat):Aib × Nat:=
 let n:=(Aq d k).2+Bz l (i+1) ((Aq d k).1.length-(Aq d k).2+1)
 ((Aq d k).1.take n,n)
def CX(l:Bc):Bc:=l.mapIdx fun i e=>(e.1,i)
def Bo(d:Al)(l:List Int):Al:=
 { quota:=d.quota,files:=(AG d l).mapIdx (fun i e=>Fb d l i e.2),now:=CX (AG d l),kept:=CX (AG d l),acts:= [],refused:=d.refused,arm:=0,down:=false }
def jrN:Bs:= [106,111,117,114,110,97,108]
def nwN:Bs:= [106,111,117,114,110,97,108,46,110,101,119]
structure Jn where
 refs:Ar
 size:Nat
 torn:Bool
 lost:Bool
inductive JA where
 | clear
 | app (s b:Bs)
 | sync (s:Bs)
 | move
def BC(D:Al):JA->Al × Nat
 | .clear=>if(BF D nwN).2=4 then((BF D nwN).1,0)else BF D nwN
 | .app s b=>BV D s b
 | .sync s=>Ch D s
 | .move=>Dh D nwN jrN
def AN(D:Al):List JA->Al × Nat
 | []=>(D,0)
 | a :: r=>if(BC D a).2≠0 then BC D a else AN (BC D a).1 r
theorem EM(D:Al)(a:JA)(r:List JA):AN D (a :: r)=if(BC D a).2≠0 then BC D a else AN (BC D a).1 r:=rfl
def F9(J:Jn)(e:Nat):Jn:=⟨J.refs,J.size,J.torn,J.lost||decide (e=9)⟩
def wholeB(r:Ar):Bs:=recB 83 (DU r)
def Bi(D:Al)(r:Ar):Al × Nat:=AN D [.clear, .app nwN (wholeB r)]
def Ds(D:Al):Al × Nat:=AN D [.sync nwN, .move, .sync jrN]
def M7(D:Al)(J:Jn):Al × Jn × Nat:=if(AN D [.clear]).2≠0 then((AN D [.clear]).1,F9 J (AN D [.clear]).2,(AN D [.clear]).2)else((AN D [.clear]).1,J,8)
def QN(D:Al)(J:Jn):Al × Jn × Nat:=if(Ds D).2≠0 then((Ds D).1,F9 J (Ds D).2,(Ds D).2)else((Ds D).1,⟨J.refs,(wholeB J.refs).length,false,J.lost⟩,0)
def AL(D:Al)(J:Jn):Al × Jn × Nat:=
 if(Bi D J.refs).2=8 then M7 (Bi D J.refs).1 J
 else if(Bi D J.refs).2≠0 then((Bi D J.refs).1,F9 J (Bi D J.refs).2,(Bi D J.refs).2)
 else QN (Bi D J.refs).1 J
def DV(D:Al)(b:Bs):Al × Nat:=AN D [.app jrN b, .sync jrN]
def FW(D:Al)(J:Jn)(r:Ar)(b:Bs):Al × Jn × Nat:=if(DV D b).2≠0 then((DV D b).1,F9 J (DV D b).2,(DV D b).2)else((DV D b).1,⟨r,J.size+b.length,J.torn,J.lost⟩,0)
noncomputable def By(D:Al)(J:Jn)(l:List Aw)(note:Bs):Al × Jn × Nat:=
 if J.lost=true then(D,J,19)
 else if(Ag J.refs l note).1≠0 then(D,J,(Ag J.refs l note).1)
 else if J.torn=true\/8192<J.size then
  (if(AL D J).2.2≠0/\(J.torn=true\/(AL D J).2.2≠8)then AL D J
   else FW (AL D J).1 (AL D J).2.1 (Ag J.refs l note).2 (recB 84 (tranB l note)))
 else FW D J (Ag J.refs l note).2 (recB 84 (tranB l note))
noncomputable def C9(D:Al)(b:Bs):Al × Option Jn × Nat:=
 match BU b with
 | none=>(D,none,6)
 | some x=>if x.2=true then(if(AL D ⟨x.1,b.length,true,false⟩).2.2≠0/\(AL D ⟨x.1,b.length,true,false⟩).2.2≠8 then((AL D ⟨x.1,b.length,true,false⟩).1,none,(AL D ⟨x.1,b.length,true,false⟩).2.2)else((AL D ⟨x.1,b.length,true,false⟩).1,some (AL D ⟨x.1,b.length,true,false⟩).2.1,0))
  else(D,some ⟨x.1,b.length,false,false⟩,0)
noncomputable def EG(D:Al):Al × Option Jn × Nat:=
 if(AN D [.clear]).2≠0 then((AN D [.clear]).1,none,(AN D [.clear]).2)
 else if(Bk (AN D [.clear]).1 jrN).2≠0/\(Bk (AN D [.clear]).1 jrN).2≠4 then((AN D [.clear]).1,none,(Bk (AN D [.clear]).1 jrN).2)
 else C9 (AN D [.clear]).1 (Bk (AN D [.clear]).1 jrN).1
open Go.WideElems (Fit rd rg rg_of)
open Go.WideShapes (sorted_perm)
open Go.MapKept Go.WideShapes
theorem Yt{es:List Ae5}:(∀e∈es,∃a,e.key=St a)->∃ks:List Aib,es.map (·.key)=ks.map St:=by
 induction es with
 | nil=>intro _;exact⟨[],rfl⟩
 | cons e r ih=>
  intro h;obtain⟨a,ha⟩:=h e AdT;obtain⟨ks,hk⟩:=ih fun x hx=>h x (AdR _ hx);exact⟨a :: ks,by rw[AcX,AcX,ha,hk]⟩
theorem DQ{a b:Aib}(h:St a=St b):a=b:=by simpa using h
theorem UK{P:AcY}{k:AcK}(hk:P.underlying k=some .string){a:Aib}(ha:a.length<=maxLen):keyOf P k (St a)=some (.string a):=by
 simp[keyOf,hk,mapKey];exact ha
abbrev H0(_:AcD):Option (DataW Unit × List MemPlace):=some (.nil,[])
theorem MapF.owns{β:Type}{P:AcY}{k:AcK}(hk:P.underlying k=some .string){ev:β->AcD}{D:Aib->Prop}(hD:∀a,D a->a.length<=maxLen){w:AcE}{b:Nat}{G:Aib->Option β}(h:MapF St ev D w b G){keys:List Aib}(hn:keys.Nodup)(hG:∀s,(G s).isSome=true↔s∈keys)(hmax:keys.length<=maxLen):
  ∃D0:DataW Unit,w.ownsMap P k H0 b keys.length D0/\(strKeys D0).Perm keys/\Maps.size D0=keys.length:=by
 obtain⟨es,c,hb,H,hS⟩:=h;obtain⟨ks,hks⟩:=Yt (es:=es) fun e he=>by obtain⟨a,y,-,h2,-,-⟩:=H.ent e he;exact⟨a,h2⟩
 have hnd:ks.Nodup:=by
  have h:=H.keys;rw[hks]at h;exact AfI St (fun a b hne e=>hne (by rw[e])) h
 have hmem:∀s,s∈ks↔(G s).isSome=true:=fun s=>by
  constructor
  ·intro hs;have h1:St s∈es.map (·.key):=by rw[hks];exact AeR hs
   obtain⟨e,he,f⟩:=AdC.1 h1;obtain⟨a,y,-,h2,-,h4⟩:=H.ent e he;obtain rfl:a=s:=DQ (h2.symm.trans f);rw[h4];rfl
  ·intro hs;obtain⟨y,hy⟩:=Option.isSome_iff_exists.1 hs;obtain⟨-,e,he,f⟩:=H.all s y hy;have h1:St s∈es.map (·.key):=AdC.2 ⟨e,he,f⟩;rw[hks]at h1;obtain⟨a,ha,g⟩:=AdC.1 h1
   rwa [<-DQ g]
 have hperm:ks.Perm keys:=(AgB hnd hn).2 fun s=>(hmem s).trans (hG s);have hlen:es.length=keys.length:=by
  have h1:=congrArg List.length hks;rw[Ad5,Ad5]at h1;rw[h1,hperm.length_eq]
 have hrd:∀x∈es,∃a,x.key=St a/\rd P k H0 x=some (.string a, .nil):=fun x hx=>by
  obtain⟨a,y,ha,h2,-,-⟩:=H.ent x hx;exact⟨a,h2,by unfold Go.WideElems.rd;rw[h2,UK hk (hD a ha)];rfl⟩
 have hF:Fit P k H0 es.toArray c:=⟨by rw[Adi,hlen];exact hmax,hS,fun x hx=>by
  obtain⟨a,-,h2⟩:=hrd x (by simpa using hx);exact⟨_,h2⟩⟩
 refine⟨.map ((es.toArray.toList.map (rg P k H0)).foldr DataW.insert []),⟨es.toArray,c,hb,hF,by rw[Adi,hlen];exact AcI _,rfl⟩,?_,?_⟩
 ·have h1:(strKeys (.map ((es.toArray.toList.map (rg P k H0)).foldr DataW.insert []))).Perm ((es.map (rg P k H0)).map fun p=>strOf p.1):=(sorted_perm _).map _;refine h1.trans ?_;have h2:(es.map (rg P k H0)).map (fun p=>strOf p.1)=(es.map (·.key)).map fun v=>match v with | .string s=>s.data.toList | _=> []:=by
   rw[AgV,AgV];refine AhO fun x hx=> ?_;obtain⟨a,h3,h4⟩:=hrd x hx;show strOf (rg P k H0 x).1=_;rw[rg_of h4];simp only[Function.comp,h3,strOf]
  rw[h2,hks,AgV];have h5:ks.map ((fun v:AcD=>match v with | .string s=>s.data.toList | _=> [])∘St)=ks:=by
   conv=>rhs;rw[<-List.map_id ks]
   exact AhO fun a _=>rfl
  rw[h5];exact hperm
 ·show((es.toArray.toList.map (rg P k H0)).foldr DataW.insert []).length=_;rw[(sorted_perm _).length_eq,Ad5,hlen]
section
variable {α β : Type} (ek : α -> AcD) (ev : β -> AcD)
def MIt(w:AcE)(g bm:Nat)(left:List (α × β)):Prop:=
 ∃es clock since seen c0,w.heap[g]? =some (.mapIter (some bm) since seen c0)/\w.heap[bm]? =some (.map es clock)/\MapKept.Stamped es clock/\(∀x∈es.toList,x.born<since)/\since<=c0/\since<=clock/\((leftOf es seen).toList.map fun e=>(e.key,e.val)).Perm (left.map fun p=>(ek p.1,ev p.2))
def XO(w:AcE)(g bm:Nat)(a:α)(y:β):Prop:=
 ∃(es:Array Ae5) (clock since:Nat) (seen:Array Nat) (e:Ae5),w.heap[g]? =some (.mapIter (some bm) since (seen.push e.born) clock)/\w.heap[bm]? =some (.map es clock)/\(es.toList.map (·.born)).Nodup/\e∈es.toList/\e.key=ek a/\e.val=ev y
end
def ZV(w:AcE)(g:Nat):Nat:=match w.heap[g]? with
 | some (.mapIter (some bm) _ seen _)=>(match w.heap[bm]? with | some (.map es _)=>(leftOf es seen).size | _=>0)
 | _=>0
theorem AaB{α β:Type}{ek:α->AcD}{ev:β->AcD}{w:AcE}{g bm:Nat}{left:List (α × β)}(h:MIt ek ev w g bm left):ZV w g=left.length:=by
 obtain⟨es,clock,since,seen,c0,hg,hb,-,-,-,-,hp⟩:=h;have:=hp.length_eq;rw[Ad5,Ad5]at this;unfold ZV;rw[hg];simp only[hb];rw[<-this];simp
theorem MIt.lt{α β:Type}{ek:α->AcD}{ev:β->AcD}{w:AcE}{g bm:Nat}{left:List (α × β)}(h:MIt ek ev w g bm left):g<w.heap.size:=by
 obtain⟨es,clock,since,seen,c0,hg,-⟩:=h;exact(Adr.1 hg).1
theorem Mh{e:Ae5}:∀ {l:List Ae5},(l.map (·.born)).Nodup->e∈l->l.Perm (e :: l.filter fun x=> !(x.born==e.born))
 | [],_,h=>by cases h
 | x :: l,hn,h=>by
  have hn' :=List.nodup_cons.1 hn;rcases Adl.1 h with rfl | h
  ·have hf:l.filter (fun x=> !(x.born==e.born))=l:=Age.2 fun y hy=>by
    have:y.born≠e.born:=fun q=>hn'.1 (AdC.2 ⟨y,hy,q⟩)
    simpa using this
   rw[Ag1 (by simp),hf]
  ·have hx:x.born≠e.born:=fun q=>hn'.1 (AdC.2 ⟨e,h,q.symm⟩);rw[Ag2 (by simpa using hx)];exact((Mh hn'.2 h).cons x).trans (List.Perm.swap _ _ _)
theorem SZ(es:Array Ae5)(seen:Array Nat)(b:Nat):(leftOf es (seen.push b)).toList=(leftOf es seen).toList.filter fun x=> !(x.born==b):=by
 unfold leftOf;simp only[Agf,List.filter_filter];refine List.filter_congr fun x _=> ?_;rw[Bool.eq_iff_iff];simp[and_comm]
theorem QO{es:Array Ae5}{seen:Array Nat}(h:(es.toList.map (·.born)).Nodup):((leftOf es seen).toList.map (·.born)).Nodup:=by
 unfold leftOf;rw[Agf];exact(List.filter_sublist.map _).nodup h
section
variable {P : AcY} {K : AcD -> AcE -> Prop} {ρ : Aj} {w : AcE} {d : Option Tmp} {ty : AcK} {pos : String} {af : Array Edge} {gd : Option (Nat × Bool)}
variable {α β : Type} {ek : α -> AcD} {ev : β -> AcD} {D : α -> Prop} {b : Nat} {G : α -> Option β} {t Kt E : AcK}
theorem Abv(hi:∀a c,ek a=ek c->a=c)(ht:P.underlying t=some (.map Kt E)){x:AcO}(hx:Ab ρ x = .map (some b))(h:MapF ek ev D w b G){ps:List (α × β)}(hn:(ps.map AdE).Nodup)(hG:∀a y,G a=some y↔(a,y)∈ps) 
  (hk:∀n w',w.heap.size=n->MIt ek ev w' n b ps->Ext w w' ->w'.heap.size=n+1->K (.pointer (some ⟨n,0,none⟩)) w'):Yk P K ((execOp (Ab ρ) ⟨d, .range t x,ty,pos,af,gd⟩).run P w):=by
 have hlt:=h.lt;obtain⟨es,c,hb,H,hS⟩:=h;have hr:(execOp (Ab ρ) ⟨d, .range t x,ty,pos,af,gd⟩).run P w = .ok (.value (.pointer (some ⟨w.heap.size,0,none⟩))) (w.alloc (.mapIter (some b) c #[] c)):=by
  unfold execOp;simp only[hx,AcN,run_range_map w t Kt E b _ c ht hb,AcM,AcR]
 rw[hr];refine hk _ _ rfl ⟨es.toArray,c,c,#[],c,heap_alloc_new _ _,(heap_alloc_old _ _ hlt).trans hb,hS,hS.1,AcI _,AcI _,?_⟩ ((AdA _ _).alloc (AcI _) _) (by simp);have h0:(leftOf es.toArray #[]).toList=es:=by
  unfold leftOf;rw[Agf];exact Age.2 fun _ _=>by simp
 rw[h0];refine(AgB ?_ ?_).2 fun q=> ?_
 ·exact AfI (S:=(· ≠ ·)) AdE (fun a c hne e=>hne (by rw[e])) (by rw[AgV];exact H.keys)
 ·refine AgG _ (fun p q hne e=>hne ?_) (AfI (S:=(· ≠ ·)) (R:=fun p q:α × β=>p.1≠q.1) AdE (fun _ _ h=>h) hn);exact hi _ _ (congrArg AdE e)
 ·constructor
  ·intro hq;obtain⟨e,he,rfl⟩:=AdC.1 hq;obtain⟨a,y,-,h2,h3,h4⟩:=H.ent e he;exact AdC.2 ⟨(a,y),(hG a y).1 h4,by rw[h2,h3]⟩
  ·intro hq;obtain⟨p,hp,rfl⟩:=AdC.1 hq;have hg:=(hG p.1 p.2).2 hp;obtain⟨-,e,he,hek⟩:=H.all p.1 p.2 hg;obtain⟨a,y,-,h2,h3,h4⟩:=H.ent e he;have ha:a=p.1:=hi _ _ (h2.symm.trans hek);rw[ha,hg]at h4;cases h4;exact AdC.2 ⟨e,he,by rw[hek,h3]⟩
theorem AaN{x:AcO}{g bm:Nat}{left:List (α × β)}(hx:Ab ρ x = .pointer (some ⟨g,0,none⟩))(h:MIt ek ev w g bm left) 
  (h0:left= []->K (.tuple #[.bool false]) w) (h1:∀a y rest w',left.Perm ((a,y) :: rest)->MIt ek ev w' g bm rest->XO ek ev w' g bm a y->w.grownBy w' (some g)->w'.heap.size=w.heap.size->K (.tuple #[.bool true,ek a,ev y]) w'):
  Yk P K ((execOp (Ab ρ) ⟨d, .next x false,ty,pos,af,gd⟩).run P w):=by
 obtain⟨es,clock,since,seen,c0,hg,hb,hS,hold,hsc,hck,hp⟩:=h;have hgl:=(Adr.1 hg).1;have hne:bm≠g:=fun e=>by rw[e,hg]at hb;cases hb
 have hlp:=hp.length_eq;rw[Ad5,Ad5]at hlp;have hL:(leftOf es seen).toList.length=(leftOf es seen).size:=by simp
 by_cases hz:(leftOf es seen).size=0
 ·have hr:(AfF (.pointer (some ⟨g,0,none⟩)) false ty).run P w = .ok (.tuple #[.bool false]) w:=by
   simp only[AfF,getObj,AcN,Af6,hg,hb,Adw,next_test_false seen es since c0 hold hsc,Aec,if_false];unfold leftOf at hz;have hz' :AhY (fun e=> !seen.contains e.born) es = #[]:=Array.eq_empty_of_size_eq_zero hz;rw[hz'];simp[choose,Af6,Question.forced]
  unfold execOp;simp only[hx,hr,AcN,AcM,AcR];exact h0 (AdB (by omega))
 ·obtain⟨e,he,w1,hw1,hsz1,hr⟩:∃e∈(leftOf es seen).toList,∃w1:AcE,w.grownBy w1 none/\w1.heap=w.heap/\(AfF (.pointer (some ⟨g,0,none⟩)) false ty).run P w = .ok (.tuple #[.bool true,e.key,e.val]) { w1 with heap:=w1.heap.setIfInBounds g (.mapIter (some bm) since (seen.push e.born) clock) } :=by
   simp only[AfF,getObj,AcN,Af6,hg,hb,Adw,next_test_false seen es since c0 hold hsc,Aec,if_false];unfold leftOf at hz ⊢;have hmem:∀x∈(AhY (fun e=> !seen.contains e.born) es).toList,x.born<since:=fun x hx=>hold x (by simp at hx ⊢;exact hx.1)
   generalize AhY (fun e=> !seen.contains e.born) es=L at hmem hz ⊢
   have l:L.filter (fun x=>decide (x.born<since))=L:=Array.filter_eq_self.2 (fun x hx=>by simpa using hmem x (by simpa using hx));have m:L.filter (fun x=>decide (x.born>=since)) = #[]:=by
    rw[Array.filter_eq_empty_iff];intro x hx;have:=hmem x (by simpa using hx);simp;omega
   simp only[l,m,Array.append_empty];have hne' :L.isEmpty=false:=by simp[Array.isEmpty,hz]
   simp only[hne',Aec,if_false,Array.empty_append,Array.size_map];have hch:∃(j:Nat) (w1:AcE),j<L.size/\w.grownBy w1 none/\w1.heap=w.heap/\(choose (Question.mapNext L.size)).run P w = .ok j w1:=by
    by_cases hf:L.size<=1
    ·exact⟨0,w,by omega,Adb _ _,rfl,by simp[choose,Af6,Question.forced,hf]⟩
    ·exact⟨_,w.drew,Nat.mod_lt _ (by omega),(AcB w undef).drew.by_,rfl,by
      simp only[choose,Af6,Question.forced,decide_eq_true_eq,hf,if_false,Question.cut];rfl⟩
   obtain⟨j,w1,hj,hal,hwh,hrun⟩:=hch;refine⟨L[j],by simp,w1,hal,hwh,?_⟩;simp only[hrun,Array.getElem?_map,Array.getElem?_eq_getElem hj,Option.map_some,AcN,Adw,setObj,Af6,hwh,hg];rfl
  have hmk:(e.key,e.val)∈left.map fun p=>(ek p.1,ev p.2):=hp.mem_iff.1 (AeR (f:=fun e:Ae5=>(e.key,e.val)) he);obtain⟨p,hpm,hpe⟩:=AdC.1 hmk;obtain⟨rest,hrest⟩:∃rest,left.Perm (p :: rest):=by
   obtain⟨s,t,hst⟩:=List.append_of_mem hpm;exact⟨s++t,by rw[hst];exact List.perm_middle⟩
  have b:ek p.1=e.key:=congrArg AdE hpe;have c:ev p.2=e.val:=congrArg Prod.snd hpe;unfold execOp;simp only[hx,hr,AcN,AcM,AcR];rw[<-b,<-c];have hgr:w.grownBy { w1 with heap:=w1.heap.setIfInBounds g (.mapIter (some bm) since (seen.push e.born) clock) } (some g):=
   ⟨hw1.os,hw1.tape,hw1.output,by simp[hsz1],fun i _ hi=>by rw[hsz1];simp only[Aez];rw[if_neg (fun q=>hi (by rw[q]))]⟩
  have k:({ w1 with heap:=w1.heap.setIfInBounds g (.mapIter (some bm) since (seen.push e.born) clock) } :AcE).heap[bm]? =some (.map es clock):=by
   simp only[hsz1,Aez];rw[if_neg (fun q=>hne q.symm)];exact hb
  have hes:e∈es.toList:=by have:=he;unfold leftOf at this;simp at this ⊢;exact this.1
  refine h1 p.1 p.2 rest _ hrest ⟨es,clock,since,seen.push e.born,clock,by simp[hsz1,hgl],k,hS,hold,hck,hck,?_⟩ ⟨es,clock,since,seen,e,by simp[hsz1,hgl],k,hS.2.1,hes,b.symm,c.symm⟩ hgr (by simp[hsz1])
  ·have h2:=(Mh (QO (seen:=seen) hS.2.1) he).map fun e:Ae5=>(e.key,e.val);rw[<-SZ]at h2;have h3:=(h2.symm.trans hp).trans (hrest.map fun p=>(ek p.1,ev p.2));rw[AcX,AcX,<-hpe]at h3;exact h3.cons_inv
theorem AaZ{x:AcO}{g bm:Nat}{left:List (α × β)}(hx:Ab ρ x = .pointer (some ⟨g,0,none⟩))(h:MIt ek ev w g bm left)(h0:left= [])(hk:K (.tuple #[.bool false]) w):
  Yk P K ((execOp (Ab ρ) ⟨d, .next x false,ty,pos,af,gd⟩).run P w):=
 AaN hx h (fun _=>hk) fun a y rest w' hp _ _ _ _=>by rw[h0]at hp;exact absurd hp.length_eq (by simp)
theorem Abg{x:AcO}{g bm:Nat}{left:List (α × β)}(hx:Ab ρ x = .pointer (some ⟨g,0,none⟩))(h:MIt ek ev w g bm left)(h0:left≠ []) 
 (hk:∀a y rest w',left.Perm ((a,y) :: rest)->MIt ek ev w' g bm rest->XO ek ev w' g bm a y->w.grownBy w' (some g)->w'.heap.size=w.heap.size->K (.tuple #[.bool true,ek a,ev y]) w'):
 Yk P K ((execOp (Ab ρ) ⟨d, .next x false,ty,pos,af,gd⟩).run P w):=AaN hx h (fun e=>absurd e h0) hk
theorem Abw{x:AcO}{g bm:Nat}{a:α}{y:β}(hx:Ab ρ x = .pointer (some ⟨g,0,none⟩))(h:XO ek ev w g bm a y)(hk:K (.tuple #[ek a,ev y]) w):
  Yk P K ((execOp (Ab ρ) ⟨d, .entry x,ty,pos,af,gd⟩).run P w):=by
 obtain⟨es,clock,since,seen,e,hg,hb,hn,he,h1,h2⟩:=h;have hf:es.find? (·.born==e.born)=some e:=by rw[<-Array.find?_toList];exact find_born e es.toList hn he
 have hr:(Instr.entry (.pointer (some ⟨g,0,none⟩))).run P w = .ok (.tuple #[e.key,e.val]) w:=by
  simp only[Instr.entry,getObj,AcN,Af6,hg,hb,Adw,Array.back?_push,bne_self_eq_false,Aec,if_false,hf];rfl
 unfold execOp;simp only[hx,hr,AcN,AcM,AcR];rw[h1,h2];exact hk
end
structure DirOk (n : Nat) (l : Bc) : Prop where
 sort:Dr l
 num:∀e∈l,e.2<n
 may:∀e∈l,Bn e.1=true
structure ActOk (n : Nat) (a : BQ) : Prop where
 num:a.file<n
 may:a.to.length≠0->Bn a.to=true
 frm:a.frm.length<=80
structure DOk (d : Al) : Prop where
 now:DirOk d.files.length d.now
 kept:DirOk d.files.length d.kept
 acts:∀a∈d.acts,ActOk d.files.length a
 syn:∀x∈d.files,x.2<=x.1.length
theorem DirOk.nil(n:Nat):DirOk n []:=⟨List.Pairwise.nil,fun _ h=>(by cases h),fun _ h=>(by cases h)⟩
abbrev AcC:=@DirOk.nil
theorem DirOk.mono{n m:Nat}{l:Bc}(h:DirOk n l)(hn:n<=m):DirOk m l:=⟨h.sort,fun e he=>Ad3 (h.num e he) hn,h.may⟩
theorem ActOk.mono{n m:Nat}{a:BQ}(h:ActOk n a)(hn:n<=m):ActOk m a:=⟨Ad3 h.num hn,h.may,h.frm⟩
theorem DirOk.turn{n:Nat}{l:Bc}{a:BQ}(h:DirOk n l)(ha:ActOk n a):DirOk n (turnD l a):=
 ⟨SX h.sort a,fun e he=>(Gw he).elim (h.num e) fun⟨_,q⟩=>q▸ha.num,fun e he=>(Gw he).elim (h.may e) fun⟨q,r⟩=>r▸ha.may q⟩
theorem DirOk.fold{n:Nat}:∀ {acs:List BQ} {l:Bc},DirOk n l->(∀a∈acs,ActOk n a)->DirOk n (acs.foldl turnD l)
 | [],_,h,_=>h
 | a :: r,l,h,ha=>DirOk.fold (acs:=r) (l:=turnD l a) (h.turn (ha a AdT)) fun b hb=>ha b (AdR _ hb)
theorem DirOk.look{n:Nat}{l:Bc}(h:DirOk n l){s:Aib}{k:Nat}(hk:lookD l s=some k):k<n/\Bn s=true:=⟨h.num _ (EL hk),h.may _ (EL hk)⟩
theorem BR{s:Aib}(h:Bn s=true):1<=s.length/\s.length<=80:=by
 unfold Bn at h
 simpa using h
theorem DirOk.noEmpty{n:Nat}{l:Bc}(h:DirOk n l):lookD l []=none:=FN.2 fun e he q=>by
 have:=BR (h.may e he);rw[q]at this;simp at this
theorem Mi{d:Al}{k:Nat}(h:k<d.files.length):Aq d k∈d.files:=by
 unfold Aq;rw[AcL,AcQ h];exact Aee h
theorem DOk.sync_le{d:Al}(h:DOk d)(k:Nat):(Aq d k).2<=(Aq d k).1.length:=by
 by_cases hk:k<d.files.length
 ·exact h.syn _ (Mi hk)
 ·unfold Aq;rw[AcL,Ad8 (by omega)];exact AcI 0
theorem DOk.turned{d:Al}(h:DOk d){a:BQ}(ha:ActOk d.files.length a):DOk (turnedD d a):=
 ⟨h.now.turn ha,h.kept,fun b hb=>(Adt.1 hb).elim (h.acts b) fun q=>Adn.1 q▸ha,h.syn⟩
theorem DOk.files{d:Al}(h:DOk d)(fs:List (Aib × Nat))(hl:d.files.length<=fs.length)(hs:∀x∈fs,x.2<=x.1.length):DOk { d with files:=fs } :=
 ⟨h.now.mono hl,h.kept.mono hl,fun a ha=>(h.acts a ha).mono hl,hs⟩
theorem DOk.setFile{d:Al}(h:DOk d)(k:Nat)(x:Aib × Nat)(hx:x.2<=x.1.length):DOk { d with files:=d.files.set k x } :=
 h.files _ (by rw[AeO];exact AcI _) fun y hy=>(Afa hy).elim (h.syn y) fun q=>q▸hx
theorem DOk.newFile{d:Al}(h:DOk d)(x:Aib × Nat)(hx:x.2<=x.1.length):DOk { d with files:=d.files++ [x] } :=
 h.files _ (by rw[AcJ];exact Nat.le_add_right _ _) fun y hy=>(Adt.1 hy).elim (h.syn y) fun q=>Adn.1 q▸hx
theorem DOk.add{d:Al}(h:DOk d){s:Aib}(b:Aib)(hs:Bn s=true):DOk (Bg d s b):=by
 unfold Bg;split
 ·rename_i k hk
  refine h.setFile k _ ?_;have:=h.sync_le k;simp only[AcJ];omega
 ·have h1:=h.newFile (b,0) (AcZ _);have h2:=h1.turned (a:=⟨[],s,d.files.length⟩) ⟨by simp,fun _=>hs,AcZ _⟩;exact h2
theorem En(d:Al):(B0 d).1.files=d.files/\(B0 d).1.now=d.now/\(B0 d).1.kept=d.kept/\(B0 d).1.acts=d.acts/\(B0 d).1.quota=d.quota/\(B0 d).1.refused=d.refused:=by
 unfold B0;split <;> exact⟨rfl,rfl,rfl,rfl,rfl,rfl⟩
theorem DOk.synced{d:Al}(h:DOk d)(k:Nat):DOk { d with files:=d.files.set k ((Aq d k).1,(Aq d k).1.length),kept:=d.now,acts:= [] } :=by
 have h1:=h.setFile k ((Aq d k).1,(Aq d k).1.length) (AcI _);exact⟨h1.now,h1.now,fun a ha=>(by cases ha),h1.syn⟩
theorem UL{d:Al}{s t:Aib}(h:Cy d s t=0):d.down=false/\Bn s=true/\Bn t=true:=by
 unfold Cy at h;split at h
 ·cases h
 ·rename_i hd
  split at h
  ·rename_i hm
   exact⟨AgF.2 hd,hm⟩
  ·cases h
theorem H4(l:List Int)(i:Nat){n:Nat}(hn:0<n):Bz l i n<n:=by
 unfold Bz;split
 ·have h1:=Int.emod_nonneg (l.getD i 0) (show((n:Nat):Int)≠0 by omega);have h2:=Int.emod_lt_of_pos (l.getD i 0) (show(0:Int)<((n:Nat):Int) by omega);show(Ae6 (l.getD i 0) ((n:Nat):Int)).toNat<n;have h1:0<=Ae6 (l.getD i 0) ((n:Nat):Int):=h1;have h2:Ae6 (l.getD i 0) ((n:Nat):Int)<((n:Nat):Int):=h2;omega
 ·exact hn
theorem Gx{d:Al}(h:DOk d)(l:List Int)(i k:Nat):(Fb d l i k).1.length=(Fb d l i k).2/\(Fb d l i k).2<=(Aq d k).1.length:=by
 have h1:=h.sync_le k;have h2:=H4 l (i+1) (n:=(Aq d k).1.length-(Aq d k).2+1) (by omega);unfold Fb;simp only[Ac4];omega
theorem Gy(l:Bc):(CX l).map AdE=l.map AdE:=by
 unfold CX;exact List.ext_getElem (by simp) fun i h1 h2=>by simp
theorem Mj{l:Bc}(h:Dr l):Dr (CX l):=by
 have h1:((CX l).map AdE).Pairwise fun a b=>Adg a b=true:=by
  rw[Gy];exact h.map _ fun _ _ q=>q
 exact AfI AdE (fun _ _ q=>q) h1
theorem DirOk.numbered{n:Nat}{l:Bc}(h:DirOk n l):DirOk l.length (CX l):=
 ⟨Mj h.sort,fun e he=>by
  unfold CX at he;obtain⟨i,hi,rfl⟩:=AfR.1 he;exact hi,fun e he=>by
  have h1:e.1∈(CX l).map AdE:=AeR he;rw[Gy]at h1;obtain⟨x,hx,hxe⟩:=AdC.1 h1;rw[<-hxe];exact h.may x hx⟩
theorem DOk.left{d:Al}(h:DOk d)(l:List Int):DirOk d.files.length (AG d l):=h.kept.fold fun a ha=>h.acts a ((AfY _ _).subset ha)
theorem DOk.crash{d:Al}(h:DOk d)(l:List Int):DOk (Bo d l):=by
 have h1:=(h.left l).numbered;refine⟨?_,?_,fun a ha=>(by cases ha),fun x hx=> ?_⟩
 ·show DirOk ((AG d l).mapIdx _).length _;rw[AfV];exact h1
 ·show DirOk ((AG d l).mapIdx _).length _;rw[AfV];exact h1
 ·obtain⟨i,hi,rfl⟩:=AfR.1 hx;exact Nat.le_of_eq (Gx h l i _).1.symm
structure Chg (B : Nat -> Prop) (w w' : AcE) : Prop where
 os:w'.os=w.os
 tape:w'.tape=w.tape
 output:w'.output=w.output
 size:w.heap.size<=w'.heap.size
 blk:∀i,i<w.heap.size->¬B i->w'.heap[i]? =w.heap[i]?
theorem Chg.refl(B:Nat->Prop)(w:AcE):Chg B w w:=⟨rfl,rfl,rfl,AcI _,fun _ _ _=>rfl⟩
abbrev Acq:=@Chg.refl
theorem Chg.trans{B B' :Nat->Prop}{w w1 w2:AcE}(h:Chg B w w1)(k:Chg B' w1 w2)(hB:∀i,B' i->B i\/w.heap.size<=i):Chg B w w2:=
 ⟨k.os.trans h.os,k.tape.trans h.tape,k.output.trans h.output,AcG h.size k.size,fun i hi hn=>by
  have hs:=h.size;rw[k.blk i (by omega) (fun hb=>(hB i hb).elim hn (by omega)),h.blk i hi hn]⟩
theorem Chg.mono{B B' :Nat->Prop}{w w' :AcE}(h:Chg B w w')(hB:∀i,i<w.heap.size->B i->B' i):Chg B' w w' :=
 ⟨h.os,h.tape,h.output,h.size,fun i hi hn=>h.blk i hi fun hb=>hn (hB i hi hb)⟩
theorem ZH{w w' :AcE}{r:Option Nat}{B:Nat->Prop}(h:w.grownBy w' r)(hr:∀i,r=some i->B i\/w.heap.size<=i):Chg B w w' :=
 ⟨h.os,h.tape,h.output,h.size,fun i hi hn=>h.block i hi fun e=>(hr i e.symm).elim hn (by omega)⟩
theorem Chg.ofExt{w w' :AcE}{B:Nat->Prop}(h:Ext w w'):Chg B w w' :=ZH h.grown fun i e=>by cases e
abbrev Acj:=@Chg.ofExt
theorem Chg.ext{w0 w w' :AcE}{B:Nat->Prop}(hE:Ext w0 w)(h:Chg B w w')(hB:∀i,B i->w0.heap.size<=i):Ext w0 w' :=by
 have h1:=hE.grown;have hs:=hE.size;exact(AdA _ _).grown (⟨h.os.trans h1.os,h.tape.trans h1.tape,h.output.trans h1.output,AcG hs h.size,fun i hi hn=>by
  rw[h.blk i (by omega) (fun hb=>by have:=hB i hb;omega),h1.block i hi hn]⟩:w0.grownBy w' none) (AcI _) (fun _ e=>by cases e)
theorem C0{base:Nat}{e:AcK}{size:Nat}{v:AcD}{n:Nat}{xs:List AcD}{B:Nat->Prop}{w w' :AcE}(hc:Chg B w w')(h:w.ownsRow base e size v n xs)(hB:∀i,v.ownBlock=some i->¬B i):w'.ownsRow base e size v n xs:=by
 refine⟨h.1,h.2.imp (fun x=>x) fun⟨g,cap,cur,a,c,b,r⟩=>⟨g,cap,cur,a,c,(hc.blk g (bl b) (hB g (by rw[a];rfl))).trans b,r⟩⟩
structure Dk where
 g:Nat
 mn:Nat
 ml:Nat
 va:AcD
 F:Nat->Nat
 V:Nat->AcD
def BS(H:Dk)(n:Nat)(i:Nat):Prop:=i=H.g\/i=H.mn\/i=H.ml\/H.va.ownBlock=some i\/∃k,k<n/\(i=H.F k\/(H.V k).ownBlock=some i)
structure FileAt (base : Nat) (w : AcE) (f : Nat) (v : AcD) (x : Aib × Nat) : Prop where
 blk:w.heap[f]? =some (.cells ([v,NI x.2]).toArray 120 (0,0))
 row:w.ownsRow base 5 1 v x.1.length (Lib.byteCells x.1)
 lo:base<=f
structure FilesAt (base : Nat) (w : AcE) (F : Nat -> Nat) (V : Nat -> AcD) (fs : List (Aib × Nat)) : Prop where
 at_:∀k,k<fs.length->FileAt base w (F k) (V k) (fs.getD k ([],0))
 inj:∀i j,i<fs.length->j<fs.length->F i=F j->i=j
 apart:∀i j,i<fs.length->j<fs.length->i≠j->∀x,(V i).ownBlock=some x->(V j).ownBlock≠some x
theorem FileAt.keep{base:Nat}{w w' :AcE}{f:Nat}{v:AcD}{x:Aib × Nat}(h:FileAt base w f v x){B:Nat->Prop}(hc:Chg B w w')(h1:¬B f)(h2:∀i,v.ownBlock=some i->¬B i):FileAt base w' f v x:=
 ⟨(hc.blk f (bl h.blk) h1).trans h.blk,C0 hc h.row h2,h.lo⟩
theorem FilesAt.chg{base:Nat}{w w' :AcE}{F:Nat->Nat}{V:Nat->AcD}{fs:List (Aib × Nat)}(h:FilesAt base w F V fs){B:Nat->Prop}(hc:Chg B w w')(hB:∀k,k<fs.length->¬B (F k)/\∀i,(V k).ownBlock=some i->¬B i):FilesAt base w' F V fs:=
 ⟨fun k hk=>(h.at_ k hk).keep hc (hB k hk).1 (hB k hk).2,h.inj,h.apart⟩
def Yu:Prop:=True
def ActAt(w:AcE)(F:Nat->Nat)(v:AcD)(a:BQ):Prop:=
 (∃bf bn,v = .func (.func 95) #[] #[PQ bf 0,PQ bn 0]/\w.heap[bf]? =some (.cells ([PQ (F a.file) 0]).toArray 112 (0,0))/\w.heap[bn]? =some (.cells ([St a.to]).toArray 9 (0,0))/\a.frm= []/\a.to.length≠0) \/
 (Yu/\∃bs bf bn,v = .func (.func 127) #[] #[PQ bs 0,PQ bf 0,PQ bn 0]/\w.heap[bs]? =some (.cells ([St a.frm]).toArray 9 (0,0))/\w.heap[bf]? =some (.cells ([PQ (F a.file) 0]).toArray 112 (0,0))/\w.heap[bn]? =some (.cells ([St a.to]).toArray 9 (0,0))/\a.to.length≠0) \/
 (∃bn,v = .func (.func 120) #[] #[PQ bn 0]/\w.heap[bn]? =some (.cells ([St a.frm]).toArray 9 (0,0))/\a.to= [])
def TyB(w:AcE)(i:Nat):Prop:=(∃es c,w.heap[i]? =some (.map es c))\/∃cs t fr,w.heap[i]? =some (.cells cs t fr)/\(t=82\/t=120\/t=5\/t=113)
theorem TyB.off{w:AcE}{i:Nat}{cs:Array AcD}{t:AcK}{fr:Nat × Nat}(h:w.heap[i]? =some (.cells cs t fr))(h1:t≠82)(h2:t≠120)(h3:t≠5)(h4:t≠113):¬TyB w i:=by
 rintro(⟨es,c,e⟩ | ⟨cs',t',fr',e,k⟩)
 ·rw[h]at e;cases e
 ·rw[h]at e;cases e;rcases k with k | k | k | k
  ·exact h1 k
  ·exact h2 k
  ·exact h3 k
  ·exact h4 k
theorem ActAt.chg{w w' :AcE}{F F' :Nat->Nat}{v:AcD}{a:BQ}{B:Nat->Prop}(h:ActAt w F v a)(hc:Chg B w w')(hB:∀i,i<w.heap.size->B i->TyB w i)(hF:F' a.file=F a.file):ActAt w' F' v a:=by
 have k:∀ {b:Nat} {cs:Array AcD} {t:AcK} {fr:Nat × Nat},w.heap[b]? =some (.cells cs t fr)->t≠82->t≠120->t≠5->t≠113->w'.heap[b]? =some (.cells cs t fr):=fun e h1 h2 h3 h4=>(hc.blk _ (bl e) fun q=>TyB.off e h1 h2 h3 h4 (hB _ (bl e) q)).trans e;rcases h with ⟨bf,bn,e,h1,h2,h3,h4⟩ | ⟨hm,bs,bf,bn,e,h1,h2,h3,h4⟩ | ⟨bn,e,h1,h2⟩
 ·exact .inl ⟨bf,bn,e,by rw[hF];exact k h1 (by decide) (by decide) (by decide) (by decide),k h2 (by decide) (by decide) (by decide) (by decide),h3,h4⟩
 ·exact .inr (.inl ⟨hm,bs,bf,bn,e,k h1 (by decide) (by decide) (by decide) (by decide),by rw[hF];exact k h2 (by decide) (by decide) (by decide) (by decide),k h3 (by decide) (by decide) (by decide) (by decide),h4⟩)
 ·exact .inr (.inr ⟨bn,e,k h1 (by decide) (by decide) (by decide) (by decide),h2⟩)
abbrev pF(F:Nat->Nat)(k:Nat):AcD:=PQ (F k) 0
abbrev Nm(s:Aib):Prop:=s.length<=80
abbrev IU(q mn ml:Nat)(va:AcD)(rf ar:Nat)(dn:Bool):List AcD:= [NI q, .map (some mn), .map (some ml),va,NI rf,NI ar, .bool dn]
structure N0 (base : Nat) (w : AcE) (va : AcD) (F : Nat -> Nat) (acs : List BQ) (vs : List AcD) : Prop where
 row:w.ownsRow base 113 1 va vs.length vs
 len:vs.length=acs.length
 at_:∀i,i<acs.length->ActAt w F (vs.getD i undef) (acs.getD i ⟨[],[],0⟩)
structure DkS (base : Nat) (w : AcE) (H : Dk) (D : Al) : Prop where
 blk:w.heap[H.g]? =some (.cells (IU D.quota H.mn H.ml H.va D.refused D.arm D.down).toArray 82 (0,0))
 now:MapF St (pF H.F) Nm w H.mn (lookD D.now)
 kept:MapF St (pF H.F) Nm w H.ml (lookD D.kept)
 ne:H.mn≠H.ml
 acts:∃vs,N0 base w H.va H.F D.acts vs
 files:FilesAt base w H.F H.V D.files
 ok:DOk D
 lo:base<=H.g/\base<=H.mn/\base<=H.ml
def Cz(w:AcE)(i:Nat):Option Nat:=match w.heap[i]? with | some (.map _ _)=>some 0 | some (.cells _ t _)=>some (t+1) | _=>none
theorem Bp{w:AcE}{i:Nat}{cs:Array AcD}{t:AcK}{fr:Nat × Nat}(h:w.heap[i]? =some (.cells cs t fr)):Cz w i=some (t+1):=by unfold Cz;rw[h]
theorem EW{base:Nat}{e:AcK}{size:Nat}{v:AcD}{n:Nat}{xs:List AcD}{w:AcE}(h:w.ownsRow base e size v n xs){i:Nat}(hi:v.ownBlock=some i):Cz w i=some (e+1):=by
 rcases h.2 with ⟨rfl,-⟩ | ⟨g,cap,cur,rfl,b,a,-⟩
 ·cases hi
 ·obtain rfl:g=i:=Ac9 hi;exact Bp a
theorem MapF.tag{α β:Type}{ek:α->AcD}{ev:β->AcD}{D:α->Prop}{w:AcE}{b:Nat}{G:α->Option β}(h:MapF ek ev D w b G):Cz w b=some 0:=by
 obtain⟨es,c,h,-⟩:=h;unfold Cz;rw[h]
theorem MapF.congr{α β:Type}{ek:α->AcD}{ev ev' :β->AcD}{D:α->Prop}{w:AcE}{b:Nat}{G:α->Option β}(h:MapF ek ev D w b G)(he:∀a y,G a=some y->ev' y=ev y):MapF ek ev' D w b G:=by
 obtain⟨es,c,h1,h2,h3⟩:=h;exact⟨es,c,h1,⟨h2.keys,fun e he' =>by
  obtain⟨a,y,k1,k2,k3,k4⟩:=h2.ent e he';exact⟨a,y,k1,k2,k3.trans (he a y k4).symm,k4⟩,h2.all⟩,h3⟩
theorem MapF.chg{α β:Type}{ek:α->AcD}{ev:β->AcD}{D:α->Prop}{w w' :AcE}{b:Nat}{G:α->Option β}{B:Nat->Prop}(h:MapF ek ev D w b G)(hc:Chg B w w')(hB:¬B b):MapF ek ev D w' b G:=by
 obtain⟨es,c,h1,h2⟩:=h;exact⟨es,c,(hc.blk b (bl h1) hB).trans h1,h2⟩
theorem Chg.keep{B:Nat->Prop}{w w1 w2:AcE}(h:Chg B w w1)(k:Ext w1 w2):Chg B w w2:=h.trans (B' :=fun _=>False) (Acj k) fun _ h=>h.elim
theorem Chg.set{B:Nat->Prop}{w w1 w2:AcE}{g:Nat}(h:Chg B w w1)(k:w1.grownBy w2 (some g))(hg:B g\/w.heap.size<=g):Chg B w w2:=h.trans (B' :=fun i=>i=g) (ZH k fun i e=> .inl (Ac9 e).symm) fun i e=>e▸hg
abbrev Acd:=@Chg.set
theorem Aaq{B:Nat->Prop}{w w1 w2:AcE}{v v' :AcD}(h:Chg B w w1)(k:Grew w1 w2 v v')(hv:∀i,v.ownBlock=some i->B i\/w.heap.size<=i):Chg B w w2:=h.trans (B' :=fun i=>v.ownBlock=some i) (ZH k.by_ fun i e=> .inl e) hv
section
variable {base : Nat} {w w' : AcE} {H : Dk} {D : Al}
theorem DkS.tg(h:DkS base w H D):Cz w H.g=some (82+1):=Bp h.blk
theorem DkS.tF(h:DkS base w H D){k:Nat}(hk:k<D.files.length):Cz w (H.F k)=some (120+1):=Bp (h.files.at_ k hk).blk
theorem DkS.tV(h:DkS base w H D){k:Nat}(hk:k<D.files.length){i:Nat}(hi:(H.V k).ownBlock=some i):Cz w i=some (5+1):=EW (h.files.at_ k hk).row hi
theorem DkS.tA(h:DkS base w H D){i:Nat}(hi:H.va.ownBlock=some i):Cz w i=some (113+1):=by
 obtain⟨vs,hv⟩:=h.acts;exact EW hv.row hi
theorem Da{i:Nat}(h:Cz w i=some 0\/Cz w i=some (82+1)\/Cz w i=some (120+1)\/Cz w i=some (5+1)\/Cz w i=some (113+1)):TyB w i:=by
 unfold Cz at h;cases hb:w.heap[i]? with
 | none=>rw[hb]at h;simp at h
 | some o=>
  rw[hb]at h;cases o with
  | map es c=>exact .inl ⟨es,c,hb⟩
  | cells cs t fr=>
   refine .inr ⟨cs,t,fr,hb,?_⟩;simp only[Option.some.injEq]at h;rcases h with h | h | h | h | h
   ·omega
   ·exact .inl (Nat.succ.inj h)
   ·exact .inr (.inl (Nat.succ.inj h))
   ·exact .inr (.inr (.inl (Nat.succ.inj h)))
   ·exact .inr (.inr (.inr (Nat.succ.inj h)))
  | _=>simp at h
theorem DkS.foot(h:DkS base w H D){i:Nat}(hi:BS H D.files.length i):TyB w i/\i<w.heap.size/\base<=i:=by
 have lt:∀ {j:Nat} {x:Nat},Cz w j=some x->j<w.heap.size:=fun {j x} e=>by
  rcases Nat.lt_or_ge j w.heap.size with q | q
  ·exact q
  ·unfold Cz at e;rw[Array.getElem?_eq_none q]at e;cases e
 rcases hi with rfl | rfl | rfl | hi | ⟨k,hk,rfl | hi⟩
 ·exact⟨Da (.inr (.inl h.tg)),lt h.tg,h.lo.1⟩
 ·exact⟨Da (.inl h.now.tag),lt h.now.tag,h.lo.2.1⟩
 ·exact⟨Da (.inl h.kept.tag),lt h.kept.tag,h.lo.2.2⟩
 ·obtain⟨vs,hv⟩:=h.acts;exact⟨Da (.inr (.inr (.inr (.inr (h.tA hi))))),lt (h.tA hi),(hv.row.lt i hi).1⟩
 ·exact⟨Da (.inr (.inr (.inl (h.tF hk)))),lt (h.tF hk),(h.files.at_ k hk).lo⟩
 ·exact⟨Da (.inr (.inr (.inr (.inl (h.tV hk hi))))),lt (h.tV hk hi),((h.files.at_ k hk).row.lt i hi).1⟩
theorem DkS.keepB{B:Nat->Prop}(h:DkS base w H D)(hc:Chg B w w')(hB:∀i,BS H D.files.length i->¬B i)(hT:∀i,i<w.heap.size->B i->TyB w i):DkS base w' H D:=by
 obtain⟨vs,hv⟩:=h.acts;exact⟨(hc.blk _ (bl h.blk) (hB _ (.inl rfl))).trans h.blk,h.now.chg hc (hB _ (.inr (.inl rfl))),h.kept.chg hc (hB _ (.inr (.inr (.inl rfl)))),h.ne,
  ⟨vs,C0 hc hv.row (fun i hi=>hB i (.inr (.inr (.inr (.inl hi))))),hv.len,fun i hi=>(hv.at_ i hi).chg hc hT rfl⟩,
  h.files.chg hc (fun k hk=>⟨hB _ (.inr (.inr (.inr (.inr ⟨k,hk, .inl rfl⟩)))),fun i hi=>hB i (.inr (.inr (.inr (.inr ⟨k,hk, .inr hi⟩))))⟩),h.ok,h.lo⟩
theorem DkS.keep(h:DkS base w H D)(k:Ext w w'):DkS base w' H D:=h.keepB (B:=fun _=>False) (Acj k) (fun _ _ q=>q) (fun _ _ q=>q.elim)
theorem DkS.setBlk(h:DkS base w H D)(hg:w.grownBy w' (some H.g)){q rf ar:Nat}{dn:Bool}(hb:w'.heap[H.g]? =some (.cells (IU q H.mn H.ml H.va rf ar dn).toArray 82 (0,0))):DkS base w' H { D with quota:=q,refused:=rf,arm:=ar,down:=dn } :=by
 have hc:Chg (fun i=>i=H.g) w w' :=ZH hg fun i e=> .inl (Ac9 e).symm;have hT:∀i,i<w.heap.size->i=H.g->TyB w i:=fun i _ e=>e▸Da (.inr (.inl h.tg));obtain⟨vs,hv⟩:=h.acts;have ne0:∀ {i x:Nat},Cz w i=some x->x≠82+1->i≠H.g:=fun e hx q=>by rw[q,h.tg]at e;exact hx (Ac9 e).symm
 exact⟨hb,h.now.chg hc (ne0 h.now.tag (by decide)),h.kept.chg hc (ne0 h.kept.tag (by decide)),h.ne,
  ⟨vs,C0 hc hv.row (fun i hi=>ne0 (h.tA hi) (by decide)),hv.len,fun i hi=>(hv.at_ i hi).chg hc hT rfl⟩,
  h.files.chg hc (fun k hk=>⟨ne0 (h.tF hk) (by decide),fun i hi=>ne0 (h.tV hk hi) (by decide)⟩),⟨h.ok.now,h.ok.kept,h.ok.acts,h.ok.syn⟩,h.lo⟩
def Bj{α:Type}(F:Nat->α)(n:Nat)(x:α)(k:Nat):α:=if k=n then x else F k
theorem Bw{α:Type}(F:Nat->α){n k:Nat}(x:α)(h:k<n):Bj F n x k=F k:=if_neg (by omega)
theorem BK{α:Type}(F:Nat->α)(n:Nat)(x:α):Bj F n x n=x:=if_pos rfl
theorem Hs{α:Type}(F:Nat->α){n k:Nat}(x:α)(h:k≠n):Bj F n x k=F k:=if_neg h
theorem DkS.newFile(h:DkS base w H D)(hE:Ext w w'){f:Nat}(hf:w.heap.size<=f)(hb:w'.heap[f]? =some (.cells ([.slice none 0 0,NI 0]).toArray 120 (0,0)))(h0:base<=w.heap.size):
  DkS base w' { H with F:=Bj H.F D.files.length f,V:=Bj H.V D.files.length (.slice none 0 0) } { D with files:=D.files++ [([],0)] } :=by
 have h1:=h.keep hE;obtain⟨vs,hv⟩:=h1.acts;refine⟨h1.blk,h1.now.congr fun a y hy=> ?_,h1.kept.congr fun a y hy=> ?_,h1.ne,⟨vs,hv.row,hv.len,fun i hi=> ?_⟩,⟨fun k hk=> ?_,fun i j hi hj e=> ?_,fun i j hi hj hne x hx=> ?_⟩,h.ok.newFile _ (AcI 0),h1.lo⟩
 ·show PQ (Bj _ _ _ _) 0=_;rw[Bw _ _ (h.ok.now.look hy).1]
 ·show PQ (Bj _ _ _ _) 0=_;rw[Bw _ _ (h.ok.kept.look hy).1]
 ·refine(hv.at_ i hi).chg (B:=fun _=>False) (Acq _ _) (fun _ _ q=>q.elim) (Bw _ _ ?_);exact(h.ok.acts _ (by rw[AcL,AcQ hi];exact Aee hi)).num
 ·rw[AcJ,Adh]at hk;by_cases e:k=D.files.length
  ·subst e;show FileAt base w' (Bj _ _ _ _) (Bj _ _ _ _) _;rw[BK,BK,AcL,AdO (AcI _),AgX];exact⟨hb,Aej _ _ _ 1,by omega⟩
  ·have hk' :k<D.files.length:=by omega
   show FileAt base w' (Bj _ _ _ _) (Bj _ _ _ _) _;rw[Bw _ _ hk',Bw _ _ hk',AcL,Ad1 hk',<-AcL];exact h1.files.at_ k hk'
 ·rw[AcJ,Adh]at hi hj;have lt:∀k,k<D.files.length->H.F k<w.heap.size:=fun k hk=>(h.foot (.inr (.inr (.inr (.inr ⟨k,hk, .inl rfl⟩))))).2.1;by_cases ei:i=D.files.length <;> by_cases ej:j=D.files.length
  ·omega
  ·exfalso;have e:Bj H.F D.files.length f i=Bj H.F D.files.length f j:=e;rw[ei,BK,Bw _ _ (by omega:j<D.files.length)]at e;have:=lt j (by omega);omega
  ·exfalso;have e:Bj H.F D.files.length f i=Bj H.F D.files.length f j:=e;rw[ej,BK,Bw _ _ (by omega:i<D.files.length)]at e;have:=lt i (by omega);omega
  ·have e:Bj H.F D.files.length f i=Bj H.F D.files.length f j:=e;rw[Bw _ _ (by omega:i<D.files.length),Bw _ _ (by omega:j<D.files.length)]at e;exact h.files.inj i j (by omega) (by omega) e
 ·rw[AcJ,Adh]at hi hj;have hx:(Bj H.V D.files.length (.slice none 0 0) i).ownBlock=some x:=hx;show(Bj H.V D.files.length (.slice none 0 0) j).ownBlock≠some x;by_cases ei:i=D.files.length
  ·rw[ei,BK]at hx;cases hx
  ·by_cases ej:j=D.files.length
   ·rw[ej,BK];exact fun q=>by cases q
   ·rw[Bw _ _ (by omega:i<D.files.length)]at hx;rw[Bw _ _ (by omega:j<D.files.length)];exact h.files.apart i j (by omega) (by omega) hne x hx
theorem DkS.setFile(h:DkS base w H D){k:Nat}(hk:k<D.files.length){v:AcD}{x:Aib × Nat}(hx:x.2<=x.1.length)(hc:Chg (fun i=>i=H.F k\/(H.V k).ownBlock=some i) w w')(hf:FileAt base w' (H.F k) v x)(hv:∀i,v.ownBlock=some i->(H.V k).ownBlock=some i\/w.heap.size<=i):
    DkS base w' { H with V:=Bj H.V k v } { D with files:=D.files.set k x } :=by
  have hT:∀i,i<w.heap.size->(i=H.F k\/(H.V k).ownBlock=some i)->TyB w i:=fun i _ e=>e.elim (fun e=>e▸Da (.inr (.inr (.inl (h.tF hk))))) fun e=>Da (.inr (.inr (.inr (.inl (h.tV hk e)))));obtain⟨vs,hvs⟩:=h.acts;have ne0:∀ {i x:Nat},Cz w i=some x->x≠120+1->x≠5+1->¬(i=H.F k\/(H.V k).ownBlock=some i):=fun e h1 h2 q=>q.elim (fun q=>by rw[q,h.tF hk]at e;exact h1 (Ac9 e).symm) fun q=>by rw[h.tV hk q]at e;exact h2 (Ac9 e).symm
  have off:∀j,j<D.files.length->j≠k->¬(H.F j=H.F k\/(H.V k).ownBlock=some (H.F j))/\∀i,(H.V j).ownBlock=some i->¬(i=H.F k\/(H.V k).ownBlock=some i):=fun j hj hne=>
    ⟨fun q=>q.elim (fun q=>hne (h.files.inj j k hj hk q)) fun q=>by have:=h.tV hk q;rw[h.tF hj]at this;exact absurd (Ac9 this) (by decide),
     fun i hi q=>q.elim (fun q=>by have:=h.tV hj hi;rw[q,h.tF hk]at this;exact absurd (Ac9 this) (by decide)) fun q=>h.files.apart j k hj hk hne i hi q⟩
  refine⟨(hc.blk _ (bl h.blk) (ne0 h.tg (by decide) (by decide))).trans h.blk,h.now.chg hc (ne0 h.now.tag (by decide) (by decide)),h.kept.chg hc (ne0 h.kept.tag (by decide) (by decide)),h.ne,
    ⟨vs,C0 hc hvs.row (fun i hi=>ne0 (h.tA hi) (by decide) (by decide)),hvs.len,fun i hi=>(hvs.at_ i hi).chg hc hT rfl⟩,⟨fun j hj=> ?_,fun i j hi hj e=> ?_,fun i j hi hj hne y hy=> ?_⟩,h.ok.setFile k x hx,h.lo⟩
  · rw[AeO]at hj;by_cases e:j=k
    · subst e;show FileAt base w' (H.F j) (Bj _ _ _ _) _;rw[BK,AcL,Aho hj];exact hf
    · show FileAt base w' (H.F j) (Bj _ _ _ _) _;rw[Hs _ _ e,AcL,AhB (fun q=>e q.symm),<-AcL];exact(h.files.at_ j hj).keep hc (off j hj e).1 (off j hj e).2
  · rw[AeO]at hi hj;exact h.files.inj i j hi hj e
  · rw[AeO]at hi hj;have hy:(Bj H.V k v i).ownBlock=some y:=hy;show(Bj H.V k v j).ownBlock≠some y;by_cases ei:i=k
    · have ej:j≠k:=fun q=>hne (ei.trans q.symm);rw[ei,BK]at hy;rw[Hs _ _ ej];intro q;rcases hv y hy with r | r
      · exact h.files.apart j k hj hk ej y q r
      · have:=(h.foot (.inr (.inr (.inr (.inr ⟨j,hj, .inr q⟩))))).2.1;omega
    · rw[Hs _ _ ei]at hy;by_cases ej:j=k
      · rw[ej,BK];intro q;rcases hv y q with r | r
        · exact h.files.apart i k hi hk ei y hy r
        · have:=(h.foot (.inr (.inr (.inr (.inr ⟨i,hi, .inr hy⟩))))).2.1;omega
      · rw[Hs _ _ ej];exact h.files.apart i j hi hj hne y hy
end
abbrev FO(s:Aib):List AcD:= [St s]
abbrev JH(v:AcD):List AcD:= [v]
theorem UM(l:List Aib):l.flatMap FO=l.map St:=by
 induction l with
 | nil=>rfl
 | cons a l ih=>rw[Adz,AcX,ih];rfl
theorem enV_flat(l:List AcD):l.flatMap JH=l:=by
 induction l with
 | nil=>rfl
 | cons a l ih=>rw[Adz,ih];rfl
set_option maxRecDepth 100000
abbrev Mk(n:Int):List AcD:= [.int .i64 n]
def readyL(d:Al)(l:List Aib):Nat:=if d.down=true then 9 else if l.all Bn=true then 0 else 10
theorem O7{d:Al}{l:List Aib}(h:d.down=true):readyL d l=9:=if_pos h
theorem S0{d:Al}{l:List Aib}(h:d.down=false)(h2:l.all Bn=true):readyL d l=0:=(if_neg (by rw[h];decide)).trans (if_pos h2)
theorem QP{d:Al}{l:List Aib}{i:Nat}(h:d.down=false)(hi:i<l.length)(hm:Bn (l.getD i [])=false):readyL d l=10:=by
 refine(if_neg (by rw[h];decide)).trans (if_neg fun ha=> ?_);have:=Ady.1 ha (l.getD i []) (by rw[AcL,AcQ hi];exact Aee hi);rw[hm]at this;cases this
theorem UN{l:List Aib}{i:Nat}(hi:i<l.length)(h:(l.take i).all Bn=true)(hm:Bn (l.getD i [])=true):(l.take (i+1)).all Bn=true:=by
 rw[Ad7 hi,Aha,h];rw[AcL,AcQ hi]at hm
 simpa using hm
theorem UO:Tryz.prog.underlying 25=some (.pointer 82):=by kernel_rfl
theorem QS:AC AcF 82 6 6:=fun b o w=>by simp[go_sem]
theorem Ml:Tryz.prog.underlying 114=some (.slice 9):=by kernel_rfl
theorem UP:∀w' :AcE,(sizeOf 9).run AcF w' = .ok 1 w' :=fun _=>by kernel_rfl
theorem S1:Plain AcF 104:=fun _ _=>by kernel_rfl
set_option maxHeartbeats 1600000
theorem WC(w:AcE)(s:Aib):
  Calls AcF 104 #[St s] w fun e w' =>e = .returned (.bool (Bn s))/\Ext w w' :=by
 refine F2 (args:= [St (s)]) Tryz.func104 rfl 11 rfl rfl ?_;have hE:=AbN w;refine gS (ZK (l:=s) EK rfl (gS (Y7 (a:=(s.length:Nat)) (b:=(1:Nat)) rfl rfl (Fw _ _ _ _) (gO fun _=>Ae (St (s)) rfl rfl (gT rfl) (fun hG3=>AbT rfl ⟨rfl,rfl⟩) (At (gO fun _=>Ae (NI s.length) rfl rfl (gT rfl) (fun hG4=>ZK (l:=s) EK (Ak rfl hG4) ⟨rfl,rfl⟩) (At (gO fun _=>Ae (.bool (decide ((s.length)<=(80)))) rfl rfl (gT rfl) (fun hG5=>Y7 (a:=((s.length:Nat):Int)) (b:=((80:Nat):Int)) (Ak rfl hG5) rfl (E1 _ .i64 (s.length) (80)) ⟨rfl,rfl⟩) (At (gS (Zq rfl (fun hA=>(Ak rfl hA)) rfl fun bb6 hbb7=>(AE rfl (vr (.bool (bb6)) rfl) ?_))))))))))));subst hbb7;exact⟨rfl,hE⟩
theorem Fp(base:Nat)(w:AcE)(H:Dk)(D:Al)(hS:DkS base w H D)(v:AcD)(l:List Aib)(hr:RG 1 FO w v l)(hl:l.length<4611686018427387904):
  Calls AcF 61 #[PQ H.g 0,v] w fun e w' =>e = .returned (NI (readyL D l))/\Ext w w' :=by
 have hb:=hS.blk;have hgl:=(bl hb);refine gG (args:= [PQ H.g 0,v]) Tryz.func61 rfl 23 rfl rfl ?_;have hE:=AbN w;refine gS (ZJ UO rfl (cF rfl (gS (AbO rfl (gS (AbM QS rfl (gS (Y6 Um rfl rfl (Ac hb rfl) ?_))))))));refine cB (D.down) rfl (fun c=> ?_) fun c=> ?_
 ·refine AE rfl (vr (NI 9) rfl) ?_;exact⟨by rw[O7 (by simpa using c)],hE⟩
 refine gS (Zh Ml (Zf hr rfl) (gL (fun(ρ:Aj) (wz:AcE)=>∃i:Nat,ρ 0=(PQ H.g 0:AcD)/\ρ 1=(v:AcD)/\ρ 8=(.bool (false):AcD)/\ρ 13=(v:AcD)/\ρ 14=(NI l.length:AcD)/\ρ 15=(NI i:AcD)/\RG 1 FO wz v l/\wz.heap[H.g]? =some (.cells (IU (D.quota) (H.mn) (H.ml) (H.va) (D.refused) (D.arm) (D.down)).toArray 82 (0,0))/\Ext w wz/\(i<=l.length)/\((l.take i).all Bn=true)/\True) (fun ρ _=>l.length-(intOf (ρ 15)).toNat) ⟨0,rfl,rfl,rfl,rfl,rfl,rfl,hr,hb,hE,AcZ _,rfl,trivial⟩ ?_));clear hr hb hE;rintro p s ⟨i,q,T1,r,k,m,f,hr,hb,hE,hi,hn,-⟩;have q15:=f;refine gS (Y7 (a:=(i:Nat)) (b:=(l.length:Nat)) f m (Bf _ _ _ _) ?_);refine cD rfl (fun n=> ?_) fun n=> ?_
 ·have hlt:i<l.length:=n;have t:(FO (l.getD (i) ([]:Aib))).length=1:=(AbX hr ([]:Aib) (by omega));refine gS (Zk Ml UP (by decide) ([]:Aib) (Zf hr k) f (by omega) fun u o=>(gS (Zt EK rfl (PR.cell (Zs o rfl) rfl) ?_)));clear o;refine gS (Y9 S1 rfl ((WC _ (l.getD (i) ([]:Aib))).mono ?_));rintro e x ⟨rfl,h⟩;refine⟨_,rfl,?_⟩;refine gS (Zn rfl ?_);refine cB (!(Bn (l.getD (i) ([]:Aib)))) rfl (fun j=> ?_) fun j=> ?_
  ·have hm:Bn (l.getD i [])=false:=by simpa using j
   refine AE rfl (vr (NI 10) rfl) ?_;have hE:=hE.trans h;exact⟨by rw[QP (by simpa using c) hlt hm],hE⟩
  have hm:Bn (l.getD i [])=true:=by simpa using j
  have hr:=hr.keep h;have hb:=eb h hb;have hE:=hE.trans h;refine gS (Ze (xv:=NI i) (yv:=NI 1) f rfl rfl (AD _ _ _ (by omega)) (gK (And.intro ⟨i+1,q,T1,r,k,m,rfl,hr,hb,hE,by omega,UN hlt hn hm,trivial⟩ ?_)));show l.length-(intOf (NI ((i)+(1)))).toNat<l.length-(intOf (p 15)).toNat;rw[q15];simp only[intOf,Ac8];omega
 refine AE rfl (vr (NI 0) rfl) ?_;exact⟨by rw[S0 (by simpa using c) (by rw[List.take_of_length_le (by omega)]at hn;exact hn)],hE⟩
theorem S2{n:Nat}{l:Bc}(h:DirOk n l):(l.map AdE).Nodup:=
 AgG _ (fun a b q e=>by rw[e,FM]at q;cases q) h.sort
theorem WD{n:Nat}{l:Bc}(h:DirOk n l)(a:Aib)(y:Nat):lookD l a=some y↔(a,y)∈l:=⟨EL,fun q=>Hr h.sort q⟩
theorem UQ{α:Type}(f:α->Nat){l:List α}{a:α}{r:List α}(h:l.Perm (a :: r)):(l.map f).sum=f a+(r.map f).sum:=by
 have:=(h.map f).sum_nat;rw[this,AcX,List.sum_cons]
theorem QT:AC AcF 82 1 1:=fun b o w=>by simp[go_sem]
theorem N1:Tryz.prog.underlying 79=some (.map 9 112):=by kernel_rfl
theorem O8:AC AcF 120 0 0:=fun b o w=>by simp[go_sem]
theorem PL(base:Nat)(w:AcE)(H:Dk)(D:Al)(hS:DkS base w H D)(hU:usedD D<4611686018427387904):
  Calls AcF 62 #[PQ H.g 0] w fun e w' =>e = .returned (NI (usedD D))/\Ext w w' :=by
 have hb:=hS.blk;have hgl:=(bl hb);refine gG (args:= [PQ H.g 0]) Tryz.func62 rfl 23 rfl rfl ?_;have hE:=AbN w;refine gS (AbO rfl (gS (AbM QT rfl (gS (Y6 N1 rfl rfl (Ac (eb hE hb) rfl) (gS (Abv (fun a c=>DQ) N1 rfl (hS.keep hE).now (S2 hS.ok.now) (WD hS.ok.now) fun b r t j k u=> ?_)))))));have hI11:=j;clear j;have hgi:=MIt.lt hI11;have hE:=hE.trans k;refine gL (fun(ρ:Aj) (wz:AcE)=>∃left:List (Aib × Nat),∃s:Nat,ρ 0=(PQ H.g 0:AcD)/\ρ 2=(NI 0:AcD)/\ρ 10=(PQ b 0:AcD)/\ρ 3=(NI s:AcD)/\Ext w wz/\MIt St (pF H.F) wz b H.mn left/\(∀p∈left,p∈D.now)/\(s+(left.map fun e=>(Aq D e.2).1.length).sum=usedD D)/\True) (fun ρ wz=>ZV wz b) ⟨D.now,0,rfl,rfl,rfl,rfl,hE,hI11,fun p hp=>hp,Aem _,trivial⟩ ?_;clear hI11;clear hE;rintro v l ⟨left,s,m,T2,f,T3,hE,hI,hsub,htot,-⟩;by_cases i:left= []
 ·refine gS (AaZ f hI i (gS (AbP (vs:= [.bool (false)]) rfl rfl (cF rfl (AE rfl T3 ?_)))));exact⟨by rw[i]at htot;rw[<-htot];rfl,hE⟩
 refine gS (Abg f hI i fun a18 y19 rest20 n h hI23 o q x=> ?_);have hm0:=AaB hI;clear hI;have hI:=hI23;clear hI23;have hgi:=MIt.lt hI;have hmem:(a18,y19)∈D.now:=hsub _ (h.mem_iff.2 AdT);have hyl:=hS.ok.now.num _ hmem;have hfl:=hS.files.at_ y19 hyl;have hsum:(left.map fun e=>(Aq D e.2).1.length).sum=(D.files.getD y19 ([],0)).1.length+(rest20.map fun e=>(Aq D e.2).1.length).sum:=UQ _ h;have hfb:=hfl.blk;have hfr:RB w (H.V y19) (D.files.getD y19 ([],0)).1:=Zm hfl.row;have hE:=Ad hE q (AcG (AcI _) (by omega));refine gS (AbP (vs:= [.bool (true),St (a18), .pointer (some ⟨(H.F y19),0,none⟩)]) rfl rfl (cT rfl (gS (Abw f o (gS (AbP (vs:= [St (a18), .pointer (some ⟨(H.F y19),0,none⟩)]) rfl rfl (gS (AbO rfl (gS (AbM O8 rfl (gS (Y6 G8 rfl rfl (Ac (eb hE hfb) rfl) (gS (Zw G8 (Zx (hfr.keep hE) rfl) (gS (Ze (xv:=NI s) (yv:=NI (((D.files.getD y19 ([],0)).1:Aib).length)) T3 rfl rfl (AD _ _ _ (by have:=hU;rw[hsum]at htot;omega)) (gK (And.intro ⟨rest20,s+(D.files.getD y19 ([],0)).1.length,m,T2,f,rfl,hE,hI,fun p hp=>hsub p (h.mem_iff.2 (AdR _ hp)),by rw[hsum]at htot;exact(Nat.add_assoc _ _ _).trans htot,trivial⟩ ?_))))))))))))))))));show ZV n b<ZV l b;rw[AaB hI,hm0,h.length_eq];simp
section
variable {P : AcY} {K : AcD -> AcE -> Prop} {ρ : Aj} {w : AcE} {d : Option Tmp} {ty : AcK} {pos : String} {af : Array Edge} {gd : Option (Nat × Bool)}
theorem KX(w:AcE)(t tx ty e:AcK)(i:TypeInfo)(z:AcD)(size bytes:Nat)(ht:P.underlying t=some (.slice e))(hi:P.info? e=some i)(hz:i.zero=some z) 
  (hsize:i.size=size) (hby:i.bytes=bytes) (hzs:z.cells.size=size) (a:Addr) (n:Nat) (xs:List AcD) (hxs:xs.length=n*size) (hc:∀j u,xs[j]? =some u->w.cell? (a.add j)=some u)
  (x:AcD) (m:Nat) (news:List AcD) (hs:Src P size tx x m news w) (hm:0<m) (h63:n+m<=maxLen) (hbytes:(n+m)*bytes<=140737488355328):
  ∃v' w',(Builtin.append_ #[t,tx] ty #[.slice (some a) n n,x]).run P w = .ok v' w' /\w'.ownsRow w.heap.size e size v' (n+m) (xs++news)/\Ext w w' :=by
 subst hsize;subst hby
 have hsmall:n+m<=9223372036854775807:=by simp only[maxLen]at h63;omega
 have hl:=hs.newsLen;have hlen:(xs++news).length=(n+m)*i.size:=by rw[AcJ,hxs,hl,Ad2]
 have hge:=grownCap_ge w (n+m) n e;have hcm:grownCap w (n+m) n e<=maxLen:=grownCap_le_maxLen w (n+m) n e h63;have hr:=run_append_grow_src (P:=P) w t tx ty e i z ht hi hz (some a) n n xs (run_firstCells_some w.drew i.size n a n n xs hxs (by simpa using hc)) x m news hs (by omega) (by omega) (growslice_fits (by omega) hbytes);refine⟨_,_,hr,⟨hlen, .inr ⟨w.heap.size,_,_,rfl,AcI _,heap_alloc_new w.drew _,hge,hcm,?_,?_⟩⟩,(AdA _ _).grown ((AcB w (AcU none 0 0)).drew.alloc _).by_ (AcI _) (fun _ e=>by simp[Adp]at e)⟩
 ·simp only[Array.size_append,Adi,size_zeroCells,hzs,hlen,<-Ad2]
  congr 1
  omega
 ·simp only[Array.toList_append];rw[<-hlen];exact List.take_left
def FullG{α:Type}(k:Nat)(enc:α->List AcD)(w:AcE)(v:AcD)(l:List α):Prop:=(v = .slice none 0 0/\l= [])\/∃a,v = .slice (some a) l.length l.length/\RG k enc w v l
theorem FullG.keep{α:Type}{k:Nat}{enc:α->List AcD}{w w' :AcE}{v:AcD}{l:List α}(h:FullG k enc w v l)(hE:Ext w w'):FullG k enc w' v l:=h.imp id fun⟨a,h1,h2⟩=>⟨a,h1,h2.keep hE⟩
theorem FullG.rg{α:Type}{k:Nat}{enc:α->List AcD}{w:AcE}{v:AcD}{l:List α}(h:FullG k enc w v l):RG k enc w v l:=by
 rcases h with ⟨rfl,rfl⟩ | ⟨a,h1,h2⟩
 ·exact RG.nil _ _ _
 ·exact h2
theorem Z3{α:Type}{k:Nat}{enc:α->List AcD}{t tx e e' :AcK}{z:AcD}{bytes:Nat}(ht:P.underlying t=some (.slice e))(hi:(P.info? e).map (fun i=>(i.zero,i.size,i.bytes))=some (some z,k,bytes))(hzs:z.cells.size=k)(hu:P.underlying tx=some (.slice e')) 
  (h1:∀x:α,∀u∈enc x,u.oneCell' =true) {s x:AcO} {v y:AcD} {l m:List α} (hs:Ab ρ s=v) (h:FullG k enc w v l) (hx:Ab ρ x=y) (hy:RG k enc w y m) (hm:0<m.length) (hlen:(l.length+m.length)*bytes<=140737488355328) (hlen2:l.length+m.length<=maxLen)
  (hk:∀v' w',OG w.heap.size e k enc w' v' (l++m)->Ext w w' ->K v' w'):Yk P K ((execOp (Ab ρ) ⟨d, .call ⟨.builtin .append,#[s,x],#[t,tx]⟩,ty,pos,af,gd⟩).run P w):=by
 obtain⟨i,hi0,hi1⟩:=Option.map_eq_some_iff.1 hi;have hz:i.zero=some z:=congrArg AdE hi1;have hsz:i.size=k:=congrArg (fun q=>q.2.1) hi1;have hby:i.bytes=bytes:=congrArg (fun q=>q.2.2) hi1;have hsrc:Src P k tx y m.length (m.flatMap enc) w:=by
  obtain⟨q1,q2,ao,cap,rfl,q3,q4,q5,q6⟩:=hy;cases ao with
  | none=>exact absurd (q5 rfl).1 (by omega)
  | some a=>exact Src.ofSlice w hu a _ cap _ q2 (q6 a rfl) fun u hu=>let ⟨x,_,hx⟩:=List.mem_flatMap.1 hu;h1 x u hx
 have hlen' :∀ {xs:List α},(∀x∈xs,(enc x).length=k)->(xs.flatMap enc).length=xs.length*k:=fun {xs} hxs=>by
  induction xs with
  | nil=>simp
  | cons a r ih=>rw[Adz,AcJ,hxs a AdT,ih fun x hx=>hxs x (AdR _ hx),AcV,Ad2,Nat.one_mul,Nat.add_comm]
 have hall:∀x∈l++m,(enc x).length=k:=fun x hx=>(Adt.1 hx).elim (h.rg.1 x) (hy.1 x);have fin:∀v' w',(Builtin.append_ #[t,tx] ty #[v,y]).run P w = .ok v' w' ->w'.ownsRow w.heap.size e k v' (l.length+m.length) (l.flatMap enc++m.flatMap enc)->Ext w w' ->Yk P K ((execOp (Ab ρ) ⟨d, .call ⟨.builtin .append,#[s,x],#[t,tx]⟩,ty,pos,af,gd⟩).run P w):=fun v' w' hr ho hE=>by
  refine AbU (v:=v') (w' :=w') ?_ (hk v' w' ⟨hall,by rw[AcJ,List.flatMap_append];exact ho⟩ hE);unfold execOp;simp only[resolve,invoke,builtin,AcN,AcR,AcM,AcT,AcX,Ac2,hs,hx,hr]
 rcases h with ⟨rfl,rfl⟩ | ⟨a,hv,hr⟩
 ·obtain⟨v',w',hr,ho,hg⟩:=Fi (P:=P) w w.heap.size t tx ty e i z k bytes ht hi0 hz hsz hby hzs (.slice none 0 0) 0 [] (Aej _ _ _ _) y m.length _ hsrc (by simpa using hlen2) (by simpa using hlen) (AcI _);exact fin v' w' hr (by simpa using ho) ((AdA _ _).grown hg.by_ (AcI _) fun _ q=>by simp[Adp]at q)
 ·obtain⟨-,q2,ao,cap,q3,-,-,-,q6⟩:=id hr;rw[hv]at q3;cases q3;obtain⟨v',w',hr',ho,hE⟩:=KX (P:=P) (ty:=ty) w t tx e i z k bytes ht hi0 hz hsz hby hzs a l.length _ q2 (q6 a rfl) y m.length _ hsrc hm hlen2 hlen;exact fin v' w' (by rw[hv];exact hr') ho hE
end
theorem FX:KL AcF 9 (MapKept.IsKey .string):=AaI (by kernel_rfl)
theorem EH(a:Aib)(_:Nm a):MapKept.IsKey .string (St a):=trivial
theorem H5(u:AcE):(zeroValue 112).run AcF u = .ok (.pointer none) u:=by kernel_rfl
def DK(d:Al)(ms:List Aib)(s:Aib):Except Nat Nat:=if readyL d (ms++ [s])≠0 then .error (readyL d (ms++ [s]))else match lookD d.now s with | some k=> .ok k | none=> .error 4
def YK(H:Dk):Except Nat Nat->AcD
 | .ok k=>PQ (H.F k) 0
 | .error _=> .pointer none
def YL:Except Nat Nat->Nat
 | .ok _=>0
 | .error e=>e
theorem QU{d:Al}{ms:List Aib}{s:Aib}(h:readyL d (ms++ [s])=0):Bn s=true:=by
 unfold readyL at h;split at h
 ·cases h
 ·split at h
  ·rename_i h2
   rw[Aha]at h2;simp only[Ada,AhE,List.all_nil,Bool.and_true]at h2;exact h2.2
  ·cases h
theorem IV(z:ByteArray)(w:AcE):(Adc 114 1 #[(0, .string z)]).run AcF w = .ok (.slice (some ⟨w.heap.size,0,none⟩) 1 1) (w.alloc (.cells #[.string z] 9)):=by kernel_rfl
theorem Lz:(Tryz.prog.info? 9).map (fun i=>(i.zero,i.size,i.bytes))=some (some (.string ⟨#[]⟩),1,16):=by kernel_rfl
theorem J3:Plain AcF 61:=fun _ _=>by kernel_rfl
theorem Mm:Tryz.prog.underlying 112=some (.pointer 120):=by kernel_rfl
theorem FP(base:Nat)(w:AcE)(H:Dk)(D:Al)(hS:DkS base w H D)(s:Aib)(v:AcD)(ms:List Aib)(hF:FullG 1 FO w v ms)(hl:ms.length<=1):
  Calls AcF 73 #[PQ H.g 0,St s,v] w fun e w' =>e = .returned (.tuple #[YK H (DK D ms s),NI (YL (DK D ms s))])/\Ext w w' :=by
 have hb:=hS.blk;have hgl:=(bl hb);refine gG (args:= [PQ H.g 0,St (s),v]) Tryz.func73 rfl 28 rfl rfl ?_;have hE:=AbN w;by_cases c:readyL D (ms++ [s])≠0
 ·have hV:DK D ms s = .error (readyL D (ms++ [s])):=if_pos c;refine gS (ZW (a:=s) (enc:=FO) (vr (St (s)) rfl) rfl (fun w=>IV _ w) fun n w5 o p=> ?_);have hE:=hE.trans p;refine gS (Z3 Ml Lz rfl Ml (fun y u hu=>by rw[Adn.1 hu];rfl) (vr v rfl) (hF.keep hE) (vr n rfl) o (by simp) (by simp;omega) (by simp[maxLen];omega) fun q w9 r t=> ?_);have ak:=hE.size;have hE:=hE.trans t;refine gS (Zb J3 rfl rfl ((Fp base _ H D (hS.keep hE) q (ms++ [s]) (Y8 r) (by simp;omega)).mono ?_));rintro e al ⟨rfl,x⟩;refine⟨_,rfl,?_⟩;refine gS (Y7 (a:=(readyL D (ms++ [s]):Nat)) (b:=(0:Nat)) rfl rfl (AX _ _ _ _) (kT (by omega) (cT rfl (DX rfl (vr (.pointer none) rfl) (vr (NI (readyL D (ms++ [s]))) rfl) ?_))));have hE:=hE.trans x;exact⟨by rw[hV];rfl,hE⟩
 have z:readyL D (ms++ [s])=0:=Classical.not_not.1 c;have hm:=QU z;rcases hlk:lookD D.now s with _ | k
 ·have hV:DK D ms s = .error 4:=by unfold DK;rw[if_neg c,hlk]
  refine gS (ZW (a:=s) (enc:=FO) (vr (St (s)) rfl) rfl (fun w=>IV _ w) fun aa am ab f=> ?_);have hE:=hE.trans f;refine gS (Z3 Ml Lz rfl Ml (fun y u hu=>by rw[Adn.1 hu];rfl) (vr v rfl) (hF.keep hE) (vr aa rfl) ab (by simp) (by simp;omega) (by simp[maxLen];omega) fun ac an ad h=> ?_);have ao:=hE.size;have hE:=hE.trans h;refine gS (Zb J3 rfl rfl ((Fp base _ H D (hS.keep hE) ac (ms++ [s]) (Y8 ad) (by simp;omega)).mono ?_));rintro e ap ⟨rfl,i⟩;refine⟨_,rfl,?_⟩;have hb:=eb ((f.trans h).trans i) hb;have hE:=hE.trans i;refine gS (Y7 (a:=(readyL D (ms++ [s]):Nat)) (b:=(0:Nat)) rfl rfl (AX _ _ _ _) (kF (by omega) (cF rfl (gS (AbO rfl (gS (AbM QT rfl (gS (Y6 N1 rfl rfl (Ac hb rfl) (gS (AaA FX EH (fun _ _=>DQ) N1 H5 rfl rfl (hS.keep hE).now (by have:=BR hm;exact this.2) hlk (gS (ZJ Mm rfl (kB (rfl) (cT rfl (DX rfl (vr (.pointer none) rfl) (vr (NI 4) rfl) ?_))))))))))))))));exact⟨by rw[hV];rfl,hE⟩
 have hV:DK D ms s = .ok k:=by unfold DK;rw[if_neg c,hlk]
 refine gS (ZW (a:=s) (enc:=FO) (vr (St (s)) rfl) rfl (fun w=>IV _ w) fun ae aq af j=> ?_);have hE:=hE.trans j;refine gS (Z3 Ml Lz rfl Ml (fun y u hu=>by rw[Adn.1 hu];rfl) (vr v rfl) (hF.keep hE) (vr ae rfl) af (by simp) (by simp;omega) (by simp[maxLen];omega) fun ag ar ah l=> ?_);have au:=hE.size;have hE:=hE.trans l;refine gS (Zb J3 rfl rfl ((Fp base _ H D (hS.keep hE) ag (ms++ [s]) (Y8 ah) (by simp;omega)).mono ?_));rintro e av ⟨rfl,m⟩;refine⟨_,rfl,?_⟩;have hb:=eb ((j.trans l).trans m) hb;have hE:=hE.trans m;refine gS (Y7 (a:=(readyL D (ms++ [s]):Nat)) (b:=(0:Nat)) rfl rfl (AX _ _ _ _) (kF (by omega) (cF rfl (gS (AbO rfl (gS (AbM QT rfl (gS (Y6 N1 rfl rfl (Ac hb rfl) (gS (ZX FX EH (fun _ _=>DQ) N1 H5 rfl rfl (hS.keep hE).now (by have:=BR hm;exact this.2) hlk (gS (ZJ Mm rfl (kB (rfl) (cF rfl (DX rfl (vr (.pointer (some ⟨(H.F k),0,none⟩)) rfl) (vr (NI 0) rfl) ?_))))))))))))))));exact⟨by rw[hV];rfl,hE⟩
theorem JI{α β:Type}{ek:α->AcD}{ev:β->AcD}{D:α->Prop}{w w' :AcE}{m:Nat}{G:α->Option β}(h:MapF ek ev D w m G)(hg:w.grownBy w' (some m)){b:Nat}{cs:Array AcD}{t:AcK}{fr:Nat × Nat}(hb:w.heap[b]? =some (.cells cs t fr)):w'.heap[b]? =some (.cells cs t fr):=
 kb hg hb fun e=>by obtain⟨es,c,h1,-⟩:=h;rw[e,h1]at hb;cases hb
theorem WE{ev:Nat->AcD}(w:AcE)(m:Nat)(G:Aib->Option Nat)(hM:MapF St ev Nm w m (G))(bf bn fk k:Nat)(to:Aib)(h1:w.heap[bf]? =some (.cells ([PQ fk 0]).toArray 112 (0,0)))(h2:w.heap[bn]? =some (.cells ([St to]).toArray 9 (0,0)))(hev:PQ fk 0=ev k)(ht:Nm to):
  Calls AcF 95 #[.map (some m),PQ bf 0,PQ bn 0] w fun e w' =>e = .returned (.tuple #[])/\MapF St ev Nm w' m (updM G to (some k))/\w.grownBy w' (some m):=by
 have a:=Adb w (some m);refine gG (args:= [.map (some m),PQ bf 0,PQ bn 0]) Tryz.func95 rfl 7 rfl rfl ?_;have hE:=AbN w;refine gS (Y6 EK rfl rfl (Ac h2 rfl) (gS (Y6 Mm rfl rfl (Ac h1 rfl) (gS (Aaw (ev:=ev) (c:=k) FX EH N1 (vr (.map (some m)) rfl) (vr (St (to)) rfl) (Eq.trans ((vr (PQ fk 0) rfl)) hev) (hM.keep hE) ht fun w1 hM2 b f=> ?_)))));have h1:w1.heap[bf]? =some (.cells ([PQ fk 0]).toArray 112 (0,0)):=JI hM b h1;have h2:w1.heap[bn]? =some (.cells ([St to]).toArray 9 (0,0)):=JI hM b h2;have a:w.grownBy w1 (some m):=Aa a b (fun _ e=> .inl e);clear hE;have hM:=hM2;clear hM2;refine Gm rfl ?_;exact⟨rfl,hM,a⟩
theorem XP{ev:Nat->AcD}(w:AcE)(m:Nat)(G:Aib->Option Nat)(hM:MapF St ev Nm w m (G))(bs bf bn fk k:Nat)(frm to:Aib)(h3:w.heap[bs]? =some (.cells ([St frm]).toArray 9 (0,0)))(h1:w.heap[bf]? =some (.cells ([PQ fk 0]).toArray 112 (0,0)))(h2:w.heap[bn]? =some (.cells ([St to]).toArray 9 (0,0)))(hev:PQ fk 0=ev k)(hf:Nm frm)(ht:Nm to):
  Calls AcF 127 #[.map (some m),PQ bs 0,PQ bf 0,PQ bn 0] w fun e w' =>e = .returned (.tuple #[])/\MapF St ev Nm w' m (updM (updM G frm none) to (some k))/\w.grownBy w' (some m):=by
 have a:=Adb w (some m);refine gG (args:= [.map (some m),PQ bs 0,PQ bf 0,PQ bn 0]) Tryz.func127 rfl 10 rfl rfl ?_;have hE:=AbN w;refine gS (Y6 EK rfl rfl (Ac h3 rfl) (gS (Aa4 FX EH (fun _ _=>DQ) N1 rfl rfl (hM.keep hE) hf fun w2 hM3 b h=> ?_)));have h3:w2.heap[bs]? =some (.cells ([St frm]).toArray 9 (0,0)):=JI hM b h3;have h1:w2.heap[bf]? =some (.cells ([PQ fk 0]).toArray 112 (0,0)):=JI hM b h1;have h2:w2.heap[bn]? =some (.cells ([St to]).toArray 9 (0,0)):=JI hM b h2;have a:w.grownBy w2 (some m):=Aa a b (fun _ e=> .inl e);clear hE;have hM:=hM3;clear hM3;refine gS (Y6 EK rfl rfl (Ac h2 rfl) (gS (Y6 Mm rfl rfl (Ac h1 rfl) (gS (Aaw (ev:=ev) (c:=k) FX EH N1 (vr (.map (some m)) rfl) (vr (St (to)) rfl) (Eq.trans ((vr (PQ fk 0) rfl)) hev) hM ht fun f hM7 g i=> ?_)))));have h3:f.heap[bs]? =some (.cells ([St frm]).toArray 9 (0,0)):=JI hM g h3;have h1:f.heap[bf]? =some (.cells ([PQ fk 0]).toArray 112 (0,0)):=JI hM g h1;have h2:f.heap[bn]? =some (.cells ([St to]).toArray 9 (0,0)):=JI hM g h2;have a:w.grownBy f (some m):=Aa a g (fun _ e=> .inl e);clear hM;have hM:=hM7;clear hM7;refine Gm rfl ?_;exact⟨rfl,hM,a⟩
theorem WF{ev:Nat->AcD}(w:AcE)(m:Nat)(G:Aib->Option Nat)(hM:MapF St ev Nm w m (G))(bs:Nat)(frm:Aib)(h3:w.heap[bs]? =some (.cells ([St frm]).toArray 9 (0,0)))(hf:Nm frm):
  Calls AcF 120 #[.map (some m),PQ bs 0] w fun e w' =>e = .returned (.tuple #[])/\MapF St ev Nm w' m (updM G frm none)/\w.grownBy w' (some m):=by
 have a:=Adb w (some m);refine gG (args:= [.map (some m),PQ bs 0]) Tryz.func120 rfl 5 rfl rfl ?_;have hE:=AbN w;refine gS (Y6 EK rfl rfl (Ac h3 rfl) (gS (Aa4 FX EH (fun _ _=>DQ) N1 rfl rfl (hM.keep hE) hf fun w1 hM2 b c=> ?_)));have h3:w1.heap[bs]? =some (.cells ([St frm]).toArray 9 (0,0)):=JI hM b h3;have a:w.grownBy w1 (some m):=Aa a b (fun _ e=> .inl e);clear hE;have hM:=hM2;clear hM2;refine Gm rfl ?_;exact⟨rfl,hM,a⟩
theorem N2{n:Nat}{l:Bc}(h:DirOk n l)(a:BQ)(hn:a.to.length≠0):updM (updM (lookD l) a.frm none) a.to (some a.file)=lookD (turnD l a):=by
 funext t
 rw[look_turn,if_neg hn];unfold updM;rfl
theorem S3{n:Nat}{l:Bc}(h:DirOk n l)(a:BQ)(hn:a.to.length≠0)(hf:a.frm= []):updM (lookD l) a.to (some a.file)=lookD (turnD l a):=by
 rw[<-N2 h a hn]
 funext t
 unfold updM;by_cases ht:t=a.to
 ·rw[if_pos ht,if_pos ht]
 ·rw[if_neg ht,if_neg ht];by_cases h2:t=a.frm
  ·rw[if_pos h2,h2,hf,h.noEmpty]
  ·rw[if_neg h2]
theorem S4{l:Bc}(a:BQ)(hn:a.to= []):updM (lookD l) a.frm none=lookD (turnD l a):=by
 funext t
 rw[look_turn,if_pos (by rw[hn];rfl)];unfold updM;rfl
theorem N3{w:AcE}{F:Nat->Nat}{v:AcD}{a:BQ}(h:ActAt w F v a){m n:Nat}{l:Bc}(hM:MapF St (pF F) Nm w m (lookD l))(hl:DirOk n l)(ha:ActOk n a):
  ∃f caps,v = .func (.func f) #[] caps/\Plain AcF f/\Calls AcF f (#[.map (some m)]++caps) w fun e w' =>e = .returned (.tuple #[])/\MapF St (pF F) Nm w' m (lookD (turnD l a))/\w.grownBy w' (some m):=by
 rcases h with ⟨bf,bn,e,h1,h2,h3,h4⟩ | ⟨hm,bs,bf,bn,e,h1,h2,h3,h4⟩ | ⟨bn,e,h1,h2⟩
 ·refine⟨_,_,e,fun _ _=>by kernel_rfl,?_⟩;have:=WE (ev:=pF F) w m _ hM bf bn (F a.file) a.file a.to h1 h2 rfl (BR (ha.may h4)).2;rw[S3 hl a h4 h3]at this;exact this
 ·refine⟨_,_,e,fun _ _=>by kernel_rfl,?_⟩;have:=XP (ev:=pF F) w m _ hM bs bf bn (F a.file) a.file a.frm a.to h1 h2 h3 rfl ha.frm (BR (ha.may h4)).2;rw[N2 hl a h4]at this;exact this
 ·refine⟨_,_,e,fun _ _=>by kernel_rfl,?_⟩;have:=WF (ev:=pF F) w m _ hM bn a.frm h1 ha.frm;rw[S4 a h2]at this;exact this
theorem getD_left{α:Type}{l r:List α}{i:Nat}{x:α}(h:i<l.length):(l++r).getD i x=l.getD i x:=by rw[AcL,Ad1 h,<-AcL]
theorem FQ{α:Type}{l:List α}{a x:α}:(l++ [a]).getD l.length x=a:=by rw[AcL,AdO (AcI _),AgX];rfl
section
variable {base : Nat} {w w' : AcE} {H : Dk} {D : Al}
theorem BD{w:AcE}{i j x y:Nat}(h:Cz w i=some x)(k:Cz w j=some y)(hx:x≠y):i≠j:=fun e=>by rw[e,k]at h;exact hx (Ac9 h).symm
theorem DkS.turned(h:DkS base w H D){a:BQ}(ha:ActOk D.files.length a){v:AcD}(hat:ActAt w H.F v a){vs:List AcD}(hvs:N0 base w H.va H.F D.acts vs){va' :AcD} 
  (hc:Chg (fun i=>i=H.mn\/i=H.g\/H.va.ownBlock=some i) w w') (hm:MapF St (pF H.F) Nm w' H.mn (lookD (turnD D.now a)))
  (hb:w'.heap[H.g]? =some (.cells (IU D.quota H.mn H.ml va' D.refused D.arm D.down).toArray 82 (0,0))) (hr:w'.ownsRow base 113 1 va' (vs++ [v]).length (vs++ [v])):
  DkS base w' { H with va:=va' } (turnedD D a):=by
 have hT:∀i,i<w.heap.size->(i=H.mn\/i=H.g\/H.va.ownBlock=some i)->TyB w i:=fun i _ e=>by
  rcases e with e | e | e
  ·exact e▸Da (.inl h.now.tag)
  ·exact e▸Da (.inr (.inl h.tg))
  ·exact Da (.inr (.inr (.inr (.inr (h.tA e)))))
 have ne0:∀ {i x:Nat},Cz w i=some x->x≠0->x≠82+1->x≠113+1->¬(i=H.mn\/i=H.g\/H.va.ownBlock=some i):=fun e h0 h1 h2 q=>by
  rcases q with q | q | q
  ·rw[q,h.now.tag]at e;exact h0 (Ac9 e).symm
  ·rw[q,h.tg]at e;exact h1 (Ac9 e).symm
  ·rw[h.tA q]at e;exact h2 (Ac9 e).symm
 refine⟨hb,hm,h.kept.chg hc fun q=> ?_,h.ne,⟨vs++ [v],hr,?_,fun i hi=> ?_⟩,h.files.chg hc (fun k hk=>⟨ne0 (h.tF hk) (by decide) (by decide) (by decide),fun i hi=>ne0 (h.tV hk hi) (by decide) (by decide) (by decide)⟩),h.ok.turned ha,h.lo⟩
 ·rcases q with q | q | q
  ·exact h.ne q.symm
  ·exact BD h.kept.tag h.tg (by decide) q
  ·exact BD h.kept.tag (h.tA q) (by decide) rfl
 ·show(vs++ [v]).length=(D.acts++ [a]).length;rw[AcJ,AcJ,hvs.len];rfl
 ·show ActAt w' H.F ((vs++ [v]).getD i undef) ((D.acts++ [a]).getD i _);rw[show(turnedD D a).acts.length=D.acts.length+1 by show(D.acts++ [a]).length=_;simp]at hi;have hl:=hvs.len;by_cases e:i<D.acts.length
  ·rw[getD_left (by omega:i<vs.length),getD_left e];exact(hvs.at_ i e).chg hc hT rfl
  ·obtain rfl:i=D.acts.length:=by omega
   rw[FQ,<-hl,FQ];exact hat.chg hc hT rfl
theorem DkS.synced(h:DkS base w H D){ml' :Nat}(hc:Chg (fun i=>i=H.g) w w')(hn:w.heap.size<=ml')(hm:MapF St (pF H.F) Nm w' ml' (lookD D.now))(h0:base<=w.heap.size) 
  (hb:w'.heap[H.g]? =some (.cells (IU D.quota H.mn ml' (.slice none 0 0) D.refused D.arm D.down).toArray 82 (0,0))):
  DkS base w' { H with ml:=ml',va:= .slice none 0 0 } { D with kept:=D.now,acts:= [] } :=by
 have ne0:∀ {i x:Nat},Cz w i=some x->x≠82+1->i≠H.g:=fun e hx=>BD e h.tg hx;have hlt:=h.now.lt;exact⟨hb,h.now.chg hc (ne0 h.now.tag (by decide)),hm,fun(q:H.mn=ml')=>by omega,⟨[],Aej _ _ _ 1,rfl,fun i hi=>absurd hi (AdN _)⟩,
  h.files.chg hc (fun k hk=>⟨ne0 (h.tF hk) (by decide),fun i hi=>ne0 (h.tV hk hi) (by decide)⟩),⟨h.ok.now,h.ok.now,fun a ha=>(by cases ha),h.ok.syn⟩,⟨h.lo.1,h.lo.2.1,AcG h0 hn⟩⟩
structure DkT (base : Nat) (w : AcE) (H : Dk) (D : Al) (w' : AcE) (H' : Dk) (D' : Al) : Prop where
 st:DkS base w' H' D'
 g:H'.g=H.g
 chg:Chg (BS H D.files.length) w w'
 foot:∀i,BS H' D'.files.length i->BS H D.files.length i\/w.heap.size<=i
theorem DkT.refl(h:DkS base w H D):DkT base w H D w H D:=⟨h,rfl,Acq _ _,fun _ q=> .inl q⟩
theorem DkT.trans{w2:AcE}{H1 H2:Dk}{D1 D2:Al}(h:DkT base w H D w' H1 D1)(k:DkT base w' H1 D1 w2 H2 D2):DkT base w H D w2 H2 D2:=
 ⟨k.st,k.g.trans h.g,h.chg.trans k.chg h.foot,fun i q=>(k.foot i q).elim (h.foot i) fun r=> .inr (AcG h.chg.size r)⟩
theorem DkT.keep{w2:AcE}{H1:Dk}{D1:Al}(h:DkT base w H D w' H1 D1)(k:Ext w' w2):DkT base w H D w2 H1 D1:=⟨h.st.keep k,h.g,h.chg.keep k,h.foot⟩
theorem RB.chg{B:Nat->Prop}{v:AcD}{l:Aib}(h:RB w v l)(hc:Chg B w w')(hB:l= []\/∀i,v.ownBlock=some i->¬B i):RB w' v l:=by
 obtain⟨h1,ao,cap,rfl,h2,h3,h4,h5⟩:=h;refine⟨h1,ao,cap,rfl,h2,h3,h4,fun a ha j u hu=> ?_⟩;have hl:=h5 a ha j u hu;have hlt:=AdP w _ hl;rcases hB with rfl | hB
 ·simp[Lib.byteCells]at hu
 ·have hn:¬B (a.add j).block:=hB _ (by rw[ha];obtain⟨a1,a2,a3⟩:=a;simp only[Adp,Addr.add];split <;> rfl);have hb:=hc.blk _ hlt hn;unfold World.cell? at hl ⊢;rw[hb];exact hl
theorem DkS.offT(h:DkS base w H D){b:Nat}{cs:Array AcD}{t:AcK}{fr:Nat × Nat}(hb:w.heap[b]? =some (.cells cs t fr))(h1:t≠82)(h2:t≠120)(h3:t≠5)(h4:t≠113):¬BS H D.files.length b:=fun q=>TyB.off hb h1 h2 h3 h4 (h.foot q).1
theorem DkT.box{H1:Dk}{D1:Al}(h:DkT base w H D w' H1 D1)(h0:DkS base w H D){b:Nat}{cs:Array AcD}{t:AcK}{fr:Nat × Nat}(hb:w.heap[b]? =some (.cells cs t fr))(h1:t≠82)(h2:t≠120)(h3:t≠5)(h4:t≠113):w'.heap[b]? =some (.cells cs t fr):=
 (h.chg.blk b (bl hb) (h0.offT hb h1 h2 h3 h4)).trans hb
abbrev Ab8:=@DkT.box
theorem DkS.setFileT(h:DkS base w H D){k:Nat}(hk:k<D.files.length){v:AcD}{x:Aib × Nat}(hx:x.2<=x.1.length)(hc:Chg (fun i=>i=H.F k\/(H.V k).ownBlock=some i) w w')(hf:FileAt base w' (H.F k) v x)(hv:∀i,v.ownBlock=some i->(H.V k).ownBlock=some i\/w.heap.size<=i):
  DkT base w H D w' { H with V:=Bj H.V k v } { D with files:=D.files.set k x } :=
 ⟨h.setFile hk hx hc hf hv,rfl,hc.mono fun i _ e=> .inr (.inr (.inr (.inr ⟨k,hk,e⟩))),fun i hi=>by
  rcases hi with e | e | e | e | ⟨j,hj,e⟩
  ·exact .inl (.inl e)
  ·exact .inl (.inr (.inl e))
  ·exact .inl (.inr (.inr (.inl e)))
  ·exact .inl (.inr (.inr (.inr (.inl e))))
  ·have hj:j<D.files.length:=by have:j<(D.files.set k x).length:=hj;rwa [AeO]at this
   rcases e with e | e
   ·exact .inl (.inr (.inr (.inr (.inr ⟨j,hj, .inl e⟩))))
   ·by_cases ej:j=k
    ·have e:(Bj H.V k v j).ownBlock=some i:=e;rw[ej,BK]at e;exact(hv i e).imp (fun q=> .inr (.inr (.inr (.inr ⟨k,hk, .inr q⟩)))) id
    ·have e:(Bj H.V k v j).ownBlock=some i:=e;rw[Hs _ _ ej]at e;exact .inl (.inr (.inr (.inr (.inr ⟨j,hj, .inr e⟩))))⟩
theorem DkS.newFileT(h:DkS base w H D)(hE:Ext w w'){f:Nat}(hf:w.heap.size<=f)(hb:w'.heap[f]? =some (.cells ([.slice none 0 0,NI 0]).toArray 120 (0,0)))(h0:base<=w.heap.size):
  DkT base w H D w' { H with F:=Bj H.F D.files.length f,V:=Bj H.V D.files.length (.slice none 0 0) } { D with files:=D.files++ [([],0)] } :=
 ⟨h.newFile hE hf hb h0,rfl,Acj hE,fun i hi=>by
  rcases hi with e | e | e | e | ⟨j,hj,e⟩
  ·exact .inl (.inl e)
  ·exact .inl (.inr (.inl e))
  ·exact .inl (.inr (.inr (.inl e)))
  ·exact .inl (.inr (.inr (.inr (.inl e))))
  ·have hj:j<D.files.length+1:=by have:j<(D.files++ [(([]:Aib),0)]).length:=hj;rwa [AcJ]at this
   by_cases ej:j=D.files.length
   ·rcases e with e | e
    ·have e:i=Bj H.F D.files.length f j:=e;rw[ej,BK]at e;exact .inr (e▸hf)
    ·have e:(Bj H.V D.files.length (.slice none 0 0) j).ownBlock=some i:=e;rw[ej,BK]at e;cases e
   ·have hj' :j<D.files.length:=by omega
    rcases e with e | e
    ·have e:i=Bj H.F D.files.length f j:=e;rw[Bw _ _ hj']at e;exact .inl (.inr (.inr (.inr (.inr ⟨j,hj', .inl e⟩))))
    ·have e:(Bj H.V D.files.length (.slice none 0 0) j).ownBlock=some i:=e;rw[Bw _ _ hj']at e;exact .inl (.inr (.inr (.inr (.inr ⟨j,hj', .inr e⟩))))⟩
theorem DkS.setBlkT(h:DkS base w H D)(hg:w.grownBy w' (some H.g)){q rf ar:Nat}{dn:Bool}(hb:w'.heap[H.g]? =some (.cells (IU q H.mn H.ml H.va rf ar dn).toArray 82 (0,0))):DkT base w H D w' H { D with quota:=q,refused:=rf,arm:=ar,down:=dn } :=
 ⟨h.setBlk hg hb,rfl,ZH hg fun i e=> .inl (.inl (Ac9 e).symm),fun i hi=> .inl hi⟩
theorem DkS.syncedT(h:DkS base w H D){ml' :Nat}(hc:Chg (fun i=>i=H.g) w w')(hn:w.heap.size<=ml')(hm:MapF St (pF H.F) Nm w' ml' (lookD D.now))(h0:base<=w.heap.size) 
  (hb:w'.heap[H.g]? =some (.cells (IU D.quota H.mn ml' (.slice none 0 0) D.refused D.arm D.down).toArray 82 (0,0))):
  DkT base w H D w' { H with ml:=ml',va:= .slice none 0 0 } { D with kept:=D.now,acts:= [] } :=
 ⟨h.synced hc hn hm h0 hb,rfl,hc.mono fun i _ e=> .inl e,fun i hi=>by
  rcases hi with e | e | e | e | e
  ·exact .inl (.inl e)
  ·exact .inl (.inr (.inl e))
  ·exact .inr ((show i=ml' from e)▸hn)
  ·cases(show(none:Option Nat)=some i from e)
  ·exact .inl (.inr (.inr (.inr (.inr e))))⟩
end
theorem Aa5{P:AcY}{K:AcD->AcE->Prop}{ρ:Aj}{w:AcE}{d:Option Tmp}{ty:AcK}{pos:String}{af:Array Edge}{gd:Option (Nat × Bool)}{f:FuncId}{c x:AcO}{v y:AcD}{caps:Array AcD}{R:AcE->Prop}{at_:Array AcK}(hp:Plain P f)(hc:Ab ρ c=v)(hve:v = .func (.func f) #[] caps)(hx:Ab ρ x=y) 
  (h:Calls P f (#[y]++caps) w fun e w' =>e = .returned (.tuple #[])/\R w') (hk:∀w',R w' ->K (.tuple #[]) w'):Yk P K ((execOp (Ab ρ) ⟨d, .call ⟨.value c,#[x],at_⟩,ty,pos,af,gd⟩).run P w):=
 ZA hp (hc.trans hve) _ (by simp[hx]) (h.mono fun e w' q=>⟨_,q.1,hk w' q.2⟩)
theorem Yv{base:Nat}{w w' :AcE}{H:Dk}{D:Al}(h:DkS base w H D)(hg:w.grownBy w' (some H.mn)){vs:List AcD}(hr:OG base 113 1 JH w H.va vs):OG base 113 1 JH w' H.va vs:=
 hr.kept hg fun q=>BD h.now.tag (h.tA q) (by decide) rfl
theorem O9{base:Nat}{w w' :AcE}{H:Dk}{D:Al}(h:DkS base w H D){a:BQ}(ha:ActOk D.files.length a){v:AcD}(hat:ActAt w H.F v a){vs:List AcD}(hvs:N0 base w H.va H.F D.acts vs){va' :AcD} 
  (hc:Chg (fun i=>i=H.mn\/i=H.g\/H.va.ownBlock=some i) w w') (hm:MapF St (pF H.F) Nm w' H.mn (lookD (turnD D.now a)))
  (hb:w'.heap[H.g]? =some (.cells (IU D.quota H.mn H.ml va' D.refused D.arm D.down).toArray 82 (0,0))) (hr:w'.ownsRow base 113 1 va' (vs++ [v]).length (vs++ [v]))
  (hv:∀i,va'.ownBlock=some i->H.va.ownBlock=some i\/w.heap.size<=i):DkT base w H D w' { H with va:=va' } (turnedD D a):=
 ⟨h.turned ha hat hvs hc hm hb hr,rfl,hc.mono fun i _ e=>e.elim (fun e=> .inr (.inl e)) fun e=>e.elim .inl fun e=> .inr (.inr (.inr (.inl e))),fun i hi=>by
  rcases hi with e | e | e | e | e
  ·exact .inl (.inl e)
  ·exact .inl (.inr (.inl e))
  ·exact .inl (.inr (.inr (.inl e)))
  ·exact(hv i e).imp (fun e=> .inr (.inr (.inr (.inl e)))) id
  ·exact .inl (.inr (.inr (.inr (.inr e))))⟩
theorem KY:AC AcF 82 3 3:=fun b o w=>by simp[go_sem]
theorem J4:Tryz.prog.underlying 80=some (.slice 113):=by kernel_rfl
theorem UR(f:Fn)(a:Array AcD)(c:Array AcD)(w:AcE):(Adc 80 1 #[(0, .func f a c)]).run AcF w = .ok (.slice (some ⟨w.heap.size,0,none⟩) 1 1) (w.alloc (.cells #[.func f a c] 113)):=by kernel_rfl
theorem dw5_ig113:∃z,(Tryz.prog.info? 113).map (fun i=>(i.zero,i.size,i.bytes))=some (some z,1,8)/\z.cells.size=1:=Hn (by kernel_rfl)
theorem S5:(Tryz.prog.info? 80).map (·.size)=some 1:=by kernel_rfl
theorem LA(w0 w:AcE)(b:Ext w0 w)(H:Dk)(D:Al)(hS:DkS w0.heap.size w H D)(v:AcD)(a:BQ)(ha:ActOk D.files.length a)(hat:ActAt w H.F v a)(hn:D.acts.length<1099511627776):
  Calls AcF 94 #[PQ H.g 0,v] w fun e w' =>∃va',e = .returned (.tuple #[])/\DkT w0.heap.size w H D w' { H with va:=va' } (turnedD D a):=by
 have hb:=hS.blk;have hgl:=(bl hb);have hsz0:=b.size;have hmnl:=hS.lo.2.1;have hgl0:=hS.lo.1;have h:=hS;obtain⟨vs,hvs⟩:=hS.acts;have hvl:=hvs.len;have hrow:OG w0.heap.size 113 1 JH w H.va vs:=⟨fun _ _=>rfl,by rw[enV_flat];exact hvs.row⟩;have hvg:H.va.ownBlock≠some H.g:=fun q=>BD hS.tg (hS.tA q) (by decide) rfl;obtain⟨f,caps,hve,hpl,hcl⟩:=N3 hat hS.now hS.ok.now ha;refine gG (args:= [PQ H.g 0,v]) Tryz.func94 rfl 20 rfl rfl ?_;have hE:=AbN w;refine gS (AbO rfl (gS (AbM QT rfl (gS (Y6 N1 rfl rfl (Ac hb rfl) (gS (Aa5 hpl rfl hve rfl hcl fun w2 hR3=> ?_)))))));have hb:w2.heap[H.g]? =some (.cells (IU (D.quota) (H.mn) (H.ml) (H.va) (D.refused) (D.arm) (D.down)).toArray 82 (0,0)):=JI hS.now hR3.2 hb;have hrow:OG w0.heap.size 113 1 (JH) w2 H.va vs:=Yv hS hR3.2 hrow;have b:=Ad b hR3.2 (AcG (AcI _) (by omega));clear hE;have hC:Chg (fun i=>i=H.g\/H.va.ownBlock=some i) w2 w2:=Acq _ _;refine gS (AbO rfl (gS (AbM KY rfl (gS (Y6 J4 rfl rfl (Ac hb rfl) (gS (ZW (a:=(v)) (enc:=JH) (vr v rfl) rfl (fun w=>by rw[hve];exact UR _ _ _ w) fun t n o k=> ?_)))))));have hC:Chg (fun i=>i=H.g\/H.va.ownBlock=some i) w2 n:=(hC.keep k);have hrow:=hrow.keep k;have b:=b.trans k;refine gS (ZB _ _ w0.heap.size _ 8 J4 dw5_ig113.choose_spec.1 dw5_ig113.choose_spec.2 J4 (vs) ([(v)]) (ZY hrow (vr H.va rfl)) (Zf o (vr t rfl)) (fun y hy u hu=>by rw[Adn.1 hu,Adn.1 hy,hve];rfl) (by simp;omega) (by simp;omega) b.size fun l p j c=> ?_);have c:Grew n p H.va l:=c;have hb:=eb k hb;have x:OB l H.g:=Cc c hvg (bl hb);have hb:=AW hb c hvg;have b:=Br b c hrow.2 (AcI _);have hvf:=fun i e=>(c.fresh i e).imp id (fun q=>AcG (AcG hR3.2.size hC.size) q);have hC:Chg (fun i=>i=H.g\/H.va.ownBlock=some i) w2 p:=Aaq hC c (fun i e=> .inl (.inr e));clear o;clear hrow;refine gS (AbO rfl (gS (AbM KY rfl (gS (Za (i:=3) (v:=l) rfl rfl hb (AcP rfl) S5 (CD j.2).1 (CD j.2).2 fun m r s z=> ?_)))));clear b;have hC:Chg (fun i=>i=H.g\/H.va.ownBlock=some i) w2 m:=Acd hC s (.inl (.inl rfl));clear hb;have hb:=r;clear r;have aa:=bl hb;refine Gm rfl ?_;have hC0:Chg (fun i=>i=H.mn\/i=H.g\/H.va.ownBlock=some i) w m:=((ZH hR3.2 (fun i e=> .inl (.inl (Ac9 e).symm)):Chg (fun i=>i=H.mn\/i=H.g\/H.va.ownBlock=some i) w w2)).trans hC (fun i e=> .inl (.inr e));have hmf:=hR3.1.chg hC (fun q=>q.elim (fun q=>BD h.now.tag h.tg (by decide) q) (fun q=>BD h.now.tag (h.tA q) (by decide) rfl));have j:=AbQ j s x;have hown:m.ownsRow w0.heap.size 113 1 l (vs++ [v]).length (vs++ [v]):=by have:=j.2;rw[enV_flat]at this;exact this
 exact⟨_,rfl,O9 h ha hat hvs hC0 hmf hb hown hvf⟩
open Go.Shelf Go.RowKit
def QV:Go.Shelf.Ren:=⟨fun | 5=>51 | 7=>98 | n=>n,fun | 23=>79 | 25=>9 | 3=>112 | 4=>4 | 20=>20 | n=>n,fun | n=>n⟩
theorem XQ:Go.Proofs.SlLaysW.n5 AcF QV:= {
  mixed:=by kernel_rfl
  f5:=⟨Tryz.f51.name,by decide,Tryz.func51.trans (congrArg some (by kernel_rfl))⟩
  f7:=Tryz.func98.trans (congrArg some (by kernel_rfl))
  t4:=Af2
  a4:=Ah9
  z4:=AhZ
  v4:=Ahf
  t20:=Tryz.underlying20
  a20:=Tryz.isAgg20
  z20:=Tryz.sizeOf20
  v20:=Tryz.zeroValue20
  t23:=Tryz.underlying79
  a23:=Tryz.isAgg79
  z23:=Tryz.sizeOf79
  v23:=Tryz.zeroValue79 }
def Mn:Go.Shelf.Ren:=⟨fun | 7=>53 | 10=>101 | n=>n,fun | 23=>79 | 26=>9 | 3=>112 | 28=>117 | 0=>0 | 27=>116 | 33=>91 | 4=>4 | n=>n,fun | n=>n⟩
theorem Wa:Go.Proofs.SlLaysZ.n7 AcF Mn:= {
  mixed:=by kernel_rfl
  f7:=⟨Tryz.f53.name,by decide,Tryz.func53.trans (congrArg some (by kernel_rfl))⟩
  f10:=⟨Tryz.f101.name,by decide,Tryz.func101.trans (congrArg some (by kernel_rfl))⟩
  t0:=AgZ
  a0:=Aia
  z0:=Ah0
  v0:=Ahg
  t4:=Af2
  a4:=Ah9
  z4:=AhZ
  v4:=Ahf
  t23:=Tryz.underlying79
  a23:=Tryz.isAgg79
  z23:=Tryz.sizeOf79
  v23:=Tryz.zeroValue79
  t26:=Af3
  a26:=Ahp
  z26:=Ag0
  v26:=Agb
  t27:=Tryz.underlying116
  a27:=Tryz.isAgg116
  z27:=Tryz.sizeOf116
  v27:=Tryz.zeroValue116
  t28:=Tryz.underlying117
  a28:=Tryz.isAgg117
  z28:=Tryz.sizeOf117
  v28:=Tryz.zeroValue117
  t33:=Tryz.underlying91
  a33:=Tryz.isAgg91
  z33:=Tryz.sizeOf91
  v33:=Tryz.zeroValue91 }
def JJ:Go.Shelf.Ren:=⟨fun | 6=>52 | 8=>99 | 9=>100 | 11=>132 | 13=>134 | 12=>133 | 23=>166 | 24=>167 | 14=>157 | 15=>158 | 16=>159 | 17=>160 | 18=>161 | 19=>162 | 20=>163 | 21=>164 | 22=>165 | 25=>197 | 26=>198 | 27=>199 | 28=>200 | 29=>201 | 30=>202 | 31=>214 | n=>n,fun | 26=>9 | 28=>117 | 24=>114 | 0=>0 | 3=>3 | 37=>198 | 48=>234 | 50=>163 | 4=>4 | 40=>227 | 39=>226 | 45=>221 | 5=>5 | 9=>9 | 51=>261 | 55=>265 | 57=>279 | 58=>280 | 33=>91 | n=>n,fun | n=>n⟩
theorem WG:Go.Proofs.SlLaysZ.n6 AcF JJ:= {
  mixed:=by kernel_rfl
  f6:=⟨Tryz.f52.name,by decide,Tryz.func52.trans (congrArg some (by kernel_rfl))⟩
  f8:=⟨Tryz.f99.name,by decide,Tryz.func99.trans (congrArg some (by kernel_rfl))⟩
  f11:=⟨Tryz.f132.name,by decide,Tryz.func132.trans (congrArg some (by kernel_rfl))⟩
  t0:=AgZ
  a0:=Aia
  z0:=Ah0
  v0:=Ahg
  t24:=Agu
  a24:=AhG
  z24:=Ahu
  v24:=AgH
  t26:=Af3
  a26:=Ahp
  z26:=Ag0
  v26:=Agb
  t28:=Tryz.underlying117
  a28:=Tryz.isAgg117
  z28:=Tryz.sizeOf117
  v28:=Tryz.zeroValue117
  i26:=by kernel_rfl }
def S6:Go.Shelf.Ren:=⟨fun | 6=>100 | 8=>134 | 9=>133 | 19=>166 | 20=>167 | 21=>157 | 22=>158 | 23=>159 | 24=>160 | 25=>161 | 26=>162 | 27=>163 | 28=>164 | 29=>165 | 36=>197 | 31=>198 | 32=>199 | 37=>200 | 38=>201 | 39=>202 | 41=>214 | n=>n,fun | 27=>114 | 29=>9 | 3=>3 | 32=>198 | 26=>114 | 0=>0 | 44=>234 | 46=>163 | 4=>4 | 36=>227 | 35=>226 | 41=>221 | 5=>5 | 9=>9 | 53=>261 | 57=>265 | 63=>279 | 64=>280 | n=>n,fun | n=>n⟩
theorem Wb:Go.Proofs.SlLaysM.n6 AcF S6:= {
  mixed:=by kernel_rfl
  f6:=⟨Tryz.f100.name,by decide,Tryz.func100.trans (congrArg some (by kernel_rfl))⟩
  f8:=Tryz.func134.trans (congrArg some (by kernel_rfl))
  f9:=⟨Tryz.f133.name,by decide,Tryz.func133.trans (congrArg some (by kernel_rfl))⟩
  f19:=Tryz.func166.trans (congrArg some (by kernel_rfl))
  f20:=Tryz.func167.trans (congrArg some (by kernel_rfl))
  f21:=⟨Tryz.f157.name,by decide,Tryz.func157.trans (congrArg some (by kernel_rfl))⟩
  f22:=⟨Tryz.f158.name,by decide,Tryz.func158.trans (congrArg some (by kernel_rfl))⟩
  f23:=⟨Tryz.f159.name,by decide,Tryz.func159.trans (congrArg some (by kernel_rfl))⟩
  f24:=⟨Tryz.f160.name,by decide,Tryz.func160.trans (congrArg some (by kernel_rfl))⟩
  f25:=⟨Tryz.f161.name,by decide,Tryz.func161.trans (congrArg some (by kernel_rfl))⟩
  f26:=⟨Tryz.f162.name,by decide,Tryz.func162.trans (congrArg some (by kernel_rfl))⟩
  f27:=⟨Tryz.f163.name,by decide,Tryz.func163.trans (congrArg some (by kernel_rfl))⟩
  f28:=⟨Tryz.f164.name,by decide,Tryz.func164.trans (congrArg some (by kernel_rfl))⟩
  f29:=⟨Tryz.f165.name,by decide,Tryz.func165.trans (congrArg some (by kernel_rfl))⟩
  f31:=Tryz.func198.trans (congrArg some (by kernel_rfl))
  f32:=Tryz.func199.trans (congrArg some (by kernel_rfl))
  f36:=⟨Tryz.f197.name,by decide,Tryz.func197.trans (congrArg some (by kernel_rfl))⟩
  f37:=⟨Tryz.f200.name,by decide,Tryz.func200.trans (congrArg some (by kernel_rfl))⟩
  f38:=⟨Tryz.f201.name,by decide,Tryz.func201.trans (congrArg some (by kernel_rfl))⟩
  f39:=⟨Tryz.f202.name,by decide,Tryz.func202.trans (congrArg some (by kernel_rfl))⟩
  f41:=⟨Tryz.f214.name,by decide,Tryz.func214.trans (congrArg some (by kernel_rfl))⟩
  t0:=AgZ
  a0:=Aia
  z0:=Ah0
  v0:=Ahg
  t3:=Tryz.underlying3
  a3:=Tryz.isAgg3
  z3:=Tryz.sizeOf3
  v3:=Tryz.zeroValue3
  t4:=Af2
  a4:=Ah9
  z4:=AhZ
  v4:=Ahf
  t5:=Tryz.underlying5
  a5:=Tryz.isAgg5
  z5:=Tryz.sizeOf5
  v5:=Tryz.zeroValue5
  t9:=Af3
  a9:=Ahp
  z9:=Ag0
  v9:=Agb
  t26:=Agu
  a26:=AhG
  z26:=Ahu
  v26:=AgH
  t27:=Agu
  a27:=AhG
  z27:=Ahu
  v27:=AgH
  t29:=Af3
  a29:=Ahp
  z29:=Ag0
  v29:=Agb
  t32:=Tryz.underlying198
  a32:=Tryz.isAgg198
  z32:=Tryz.sizeOf198
  v32:=Tryz.zeroValue198
  t35:=Tryz.underlying226
  a35:=Tryz.isAgg226
  z35:=Tryz.sizeOf226
  v35:=Tryz.zeroValue226
  t36:=Tryz.underlying227
  a36:=Tryz.isAgg227
  z36:=Tryz.sizeOf227
  v36:=Tryz.zeroValue227
  t41:=Tryz.underlying221
  a41:=Tryz.isAgg221
  z41:=Tryz.sizeOf221
  v41:=Tryz.zeroValue221
  t44:=Tryz.underlying234
  a44:=Tryz.isAgg234
  z44:=Tryz.sizeOf234
  v44:=Tryz.zeroValue234
  t46:=Tryz.underlying163
  a46:=Tryz.isAgg163
  z46:=Tryz.sizeOf163
  v46:=Tryz.zeroValue163
  t53:=Tryz.underlying261
  a53:=Tryz.isAgg261
  z53:=Tryz.sizeOf261
  v53:=Tryz.zeroValue261
  t57:=Tryz.underlying265
  a57:=Tryz.isAgg265
  z57:=Tryz.sizeOf265
  v57:=Tryz.zeroValue265
  t63:=Tryz.underlying279
  a63:=Tryz.isAgg279
  z63:=Tryz.sizeOf279
  v63:=Tryz.zeroValue279
  t64:=Tryz.underlying280
  a64:=Tryz.isAgg280
  z64:=Tryz.sizeOf280
  v64:=Tryz.zeroValue280 }
open Go.RowKit Go.Shelf
theorem IW(w:AcE){F:Nat->Nat}{b:Nat}{G:Aib->Option Nat}(h:MapF St (pF F) Nm w b G):
  Calls AcF 51 #[.map (some b)] w fun e w' =>∃n,e = .returned (.map (some n))/\w.heap.size<=n/\MapF St (pF F) Nm w' n G/\Ext w w' :=by
 obtain⟨es,c,hb,hI⟩:=h;have h0:=AnyW.maps_Clone XQ b es.toArray c w hb;change Calls _ 51 _ _ _ at h0;refine h0.mono fun e w' ⟨he,hw⟩=>⟨w.heap.size,he,AcI _,⟨es,c,by rw[hw];exact heap_alloc_new _ _,hI⟩,by rw[hw];exact(AdA _ _).alloc (AcI _) _⟩
theorem XR(m:Nat):AnyZ.SortsIn AcF JJ Fence.wide m:=
 ⟨fun blk off cap ss W hH hblk hsz=>callsIn_wide.2 (AnyM.slices_Sort_string Wb blk off cap ss W hH hblk hsz),fun p cap W=>callsIn_wide.2 (AnyM.slices_Sort_string_none Wb p cap W)⟩
theorem US(w:AcE)(b:Nat):Calls AcF 53 #[.map (some b)] w fun e w' =>e = .returned (.func (.func 101) #[] #[.pointer (some ⟨w.heap.size,0,none⟩)])/\w' =w.alloc (.cells #[.map (some b)] 79):=by
 have h:=AnyZ.keys_in Wa Fence.wide 5 trivial rfl (some b) w;exact callsIn_wide.1 h
theorem QW{n:Nat}{l:Bc}(h:DirOk n l){ss:List Aib}(hp:ss.Perm (l.map AdE)):ss.mergeSort (fun x y=>decide (x<=y))=l.map AdE:=by
 have h1:=mergeSort_of_perm hp;refine h1.trans (List.mergeSort_of_pairwise ?_);refine h.sort.map _ fun a b q=> ?_;rw[bytesLess_eq,decide_eq_true_eq]at q;simp only[decide_eq_true_eq];exact List.le_of_lt q
set_option maxHeartbeats 1000000 in
theorem QX(w w2:AcE){F:Nat->Nat}{b n:Nat}{l:Bc}(hw:w2=w.alloc (.cells #[.map (some b)] 79))(h:MapF St (pF F) Nm w b (lookD l))(hl:DirOk n l)(hlen:l.length<1099511627776):
  Calls AcF 52 #[.func (.func 101) #[] #[.pointer (some ⟨w.heap.size,0,none⟩)]] w2 fun e w' =>∃v,e = .returned v/\OG w2.heap.size 9 1 FO w' v (l.map AdE)/\Ext w2 w' :=by
 subst hw;obtain⟨D0,hown,hperm,hsize⟩:=h.owns (P:=AcF) (k:=9) (by kernel_rfl) (fun a q=>AcG q (by decide)) (keys:=l.map AdE) (AgG _ (fun a b q e=>by rw[e,FM]at q;cases q) hl.sort) (fun s=>by
  constructor
  ·intro q;obtain⟨y,hy⟩:=Option.isSome_iff_exists.1 q;exact AdC.2 ⟨(s,y),EL hy,rfl⟩
  ·intro q;obtain⟨e,he,rfl⟩:=AdC.1 q;rw[Hr hl.sort he];rfl) (by rw[Ad5];simp only[maxLen];omega)
 rw[Ad5]at hsize;have hbl:=hown.lt;have hseq:SeqGives Fence.wide 2 AcF 101 #[.pointer (some ⟨w.heap.size,0,none⟩)] encStr (fun ss=>ss.Perm (strKeys D0)) (Maps.size D0) (w.alloc (.cells #[.map (some b)] 79)):=
  AnyZ.keys_gives (ρ:=Mn) { Wa with } Fence.wide _ trivial rfl (by omega) w.heap.size b _ D0 _ (by simp) (by simp) (by
   obtain⟨es,clock,hb,Ft,hs,hD⟩:=hown;exact⟨es,clock,(Below.heap_alloc _ _ b hbl).trans hb,Ft,hs,hD⟩)
 have hS:=AnyZ.sorted_in WG Fence.wide 5 trivial trivial trivial trivial rfl (by omega) (XR _) (enters_of Tryz.func100 (by kernel_rfl) rfl) 101 #[.pointer (some ⟨w.heap.size,0,none⟩)] trivial (enters_of Tryz.func101 (by kernel_rfl) rfl) _ _ (by rw[hsize];simp only[maxLen];omega) (by rw[hsize];omega) _ hseq;refine(callsIn_wide.1 hS).mono fun e w' q=> ?_;obtain⟨v,ss,he,hp,hrow,-,hB⟩:=q;refine⟨v,he,⟨fun _ _=>rfl,?_⟩,hB⟩;have hs:=QW hl (hp.trans hperm);rw[hs]at hrow;rw[UM];have hlen:ss.length=(l.map AdE).length:=(hp.trans hperm).length_eq;rw[hlen]at hrow;exact hrow
theorem WH(w0 w:AcE)(b:Ext w0 w)(H:Dk)(D:Al)(hS:DkS w0.heap.size w H D)(g:Nat)(hg:H.g=g)(v:AcD)(a:BQ)(ha:ActOk D.files.length a)(hat:ActAt w H.F v a)(hn:D.acts.length<1099511627776):
  Calls AcF 94 #[PQ g 0,v] w fun e w' =>∃va',e = .returned (.tuple #[])/\DkT w0.heap.size w H D w' { H with va:=va' } (turnedD D a):=by
 subst hg;exact LA w0 w b H D hS v a ha hat hn
theorem UT{base:Nat}{w w' :AcE}{H H1:Dk}{D D1:Al}(h:DkT base w H D w' H1 D1){v:AcD}{b:Aib}(hr:RB w v b)(ho:b= []\/∀i,v.ownBlock=some i->¬BS H D.files.length i):b= []\/∀i,v.ownBlock=some i->¬BS H1 D1.files.length i:=by
 rcases ho with h0 | ho
 ·exact .inl h0
 ·by_cases hb:b= []
  ·exact .inl hb
  ·refine .inr fun i hi q=> ?_;rcases h.foot i q with q | q
   ·exact ho i hi q
   ·have:=RB.lt hr (List.length_pos_iff.2 hb) hi;omega
theorem DkT.ofExt{base:Nat}{w w' :AcE}{H:Dk}{D:Al}(h:DkS base w H D)(hE:Ext w w'):DkT base w H D w' H D:=⟨h.keep hE,rfl,Acj hE,fun _ q=> .inl q⟩
abbrev Acg:=@DkT.ofExt
theorem WI{D:Al}{s b:Aib}{k:Nat}(h:lookD D.now s=some k):Bg D s b = { D with files:=D.files.set k ((D.files.getD k ([],0)).1++b,(D.files.getD k ([],0)).2) } :=by unfold Bg;rw[h];rfl
theorem WJ{D:Al}{s b:Aib}(h:lookD D.now s=none): { turnedD { D with files:=D.files++ [([],0)] } ⟨[],s,D.files.length⟩with files:=(turnedD { D with files:=D.files++ [([],0)] } ⟨[],s,D.files.length⟩).files.set D.files.length (((turnedD { D with files:=D.files++ [([],0)] } ⟨[],s,D.files.length⟩).files.getD D.files.length ([],0)).1++b,((turnedD { D with files:=D.files++ [([],0)] } ⟨[],s,D.files.length⟩).files.getD D.files.length ([],0)).2) } = Bg D s b:=by
 unfold Bg;rw[h];have h1:(turnedD { D with files:=D.files++ [([],0)] } ⟨[],s,D.files.length⟩).files=D.files++ [([],0)]:=rfl;rw[h1,FQ];have h2:(D.files++ [(([]:Aib),0)]).set D.files.length ([]++b,0)=D.files++ [(b,0)]:=by
  rw[List.set_append_right _ _ (AcI _),AgX];rfl
 rw[h2];rfl
theorem DC{α:Type}{l:List α}{k:Nat}{d:α}(h:k<l.length):l.getD k d∈l:=by rw[AcL,AcQ h];exact Aee h
theorem J5:Plain AcF 94:=fun _ _=>by kernel_rfl
theorem Pa:AC AcF 120 1 1:=fun b o w=>by simp[go_sem]
theorem UU:Plain AcF 51:=fun _ _=>by kernel_rfl
theorem QY:AC AcF 82 2 2:=fun b o w=>by simp[go_sem]
theorem S7:(Tryz.prog.info? 79).map (·.size)=some 1:=by kernel_rfl
theorem Mo:(Tryz.prog.info? 43).map (·.size)=some 1:=by kernel_rfl
theorem S8{d:Option Tmp}{ty:AcK}{pos:String}{af:Array Edge}{gd:Option (Nat × Bool)}(σ:AcO->AcD)(w:AcE):(execOp σ ⟨d, .alloc 112,ty,pos,af,gd⟩).run AcF w = .ok (.value (PQ w.heap.size 0)) (w.alloc (.cells ([.pointer none]).toArray 112)):=by kernel_rfl
theorem QZ:(Tryz.prog.info? 112).map (·.size)=some 1:=by kernel_rfl
theorem Yw(w0 w:AcE)(a:Ext w0 w)(H:Dk)(D:Al)(hS:DkS w0.heap.size w H D)(bd bs bf bn k:Nat)(s t:Aib)(hbd:w.heap[bd]? =some (.cells ([PQ H.g 0]).toArray 25 (0,0)))(h3:w.heap[bs]? =some (.cells ([St s]).toArray 9 (0,0)))(h1:w.heap[bf]? =some (.cells ([PQ (H.F k) 0]).toArray 112 (0,0)))(h2:w.heap[bn]? =some (.cells ([St t]).toArray 9 (0,0)))(hk:k<D.files.length)(hs:Bn s=true)(ht:Bn t=true)(hn:D.acts.length<1099511627776):
  Calls AcF 126 #[PQ bd 0,PQ bs 0,PQ bf 0,PQ bn 0] w fun e w' =>∃H',e = .returned (.tuple #[])/\DkT w0.heap.size w H D w' H' (turnedD D ⟨s,t,k⟩):=by
 have hb:=hS.blk;have hgl0:=hS.lo.1;have hsz0:=a.size;refine gG (args:= [PQ bd 0,PQ bs 0,PQ bf 0,PQ bn 0]) Tryz.func126 rfl 7 rfl rfl ?_;have hE:=AbN w;refine gS (Y6 UO rfl rfl (Ac hbd rfl) (gS (Zu (vs:= #[PQ bs 0,PQ bf 0,PQ bn 0]) (by simp only[AcT,AcX,Ac2];exact congrArg Adf (P4 (vr (PQ bs 0) rfl) (vr (PQ bf 0) rfl) (vr (PQ bn 0) rfl))) (gS (Zb J5 rfl rfl ((LA w0 _ a H D (hS.keep hE) (.func (.func 127) #[] #[PQ bs 0,PQ bf 0,PQ bn 0]) ⟨s,t,k⟩ ⟨hk,fun _=>ht,(BR hs).2⟩ (.inr (.inl ⟨trivial,bs,bf,bn,rfl,h3,h1,h2,show t.length≠0 from by have:=(BR ht).1;omega⟩)) hn).mono ?_))))));rintro e w1 ⟨va2,rfl,hT⟩;refine⟨_,rfl,?_⟩;refine Gm rfl ?_;exact⟨_,rfl,hT⟩
theorem Yx(w0 w:AcE)(a:Ext w0 w)(H:Dk)(D:Al)(hS:DkS w0.heap.size w H D)(bd bs k:Nat)(s:Aib)(hbd:w.heap[bd]? =some (.cells ([PQ H.g 0]).toArray 25 (0,0)))(h3:w.heap[bs]? =some (.cells ([St s]).toArray 9 (0,0)))(hk:k<D.files.length)(hs:Bn s=true)(hn:D.acts.length<1099511627776):
  Calls AcF 119 #[PQ bd 0,PQ bs 0] w fun e w' =>∃H',e = .returned (.tuple #[])/\DkT w0.heap.size w H D w' H' (turnedD D ⟨s,[],k⟩):=by
 have hb:=hS.blk;have hgl0:=hS.lo.1;have hsz0:=a.size;refine gG (args:= [PQ bd 0,PQ bs 0]) Tryz.func119 rfl 5 rfl rfl ?_;have hE:=AbN w;refine gS (Y6 UO rfl rfl (Ac hbd rfl) (gS (Zu (vs:= #[PQ bs 0]) (by simp only[AcT,AcX,Ac2];exact congrArg Adf (Fx (vr (PQ bs 0) rfl))) (gS (Zb J5 rfl rfl ((LA w0 _ a H D (hS.keep hE) (.func (.func 120) #[] #[PQ bs 0]) ⟨s,[],k⟩ ⟨hk,fun q=>absurd rfl q,(BR hs).2⟩ (.inr (.inr ⟨bs,rfl,h3,rfl⟩)) hn).mono ?_))))));rintro e w1 ⟨va2,rfl,hT⟩;refine⟨_,rfl,?_⟩;refine Gm rfl ?_;exact⟨_,rfl,hT⟩
theorem Yy(w0 w:AcE)(f:Ext w0 w)(H:Dk)(D:Al)(hS:DkS w0.heap.size w H D)(bf bd k:Nat)(hbf:w.heap[bf]? =some (.cells ([PQ (H.F k) 0]).toArray 112 (0,0)))(hbd:w.heap[bd]? =some (.cells ([PQ H.g 0]).toArray 25 (0,0)))(hkl:k<D.files.length):
  Calls AcF 96 #[PQ bf 0,PQ bd 0] w fun e w' =>∃H',e = .returned (.tuple #[])/\DkT w0.heap.size w H D w' H' ({ D with files:=D.files.set k ((Aq D k).1,(Aq D k).1.length),kept:=D.now,acts:= [] }):=by
 have hb:=hS.blk;have hgl0:=hS.lo.1;have hsz0:=f.size;have h:=hS;have hbd0:=hbd;have af:bf≠H.F k:=BD (Bp hbf) (hS.tF hkl) (by decide);have ag:bd≠H.F k:=BD (Bp hbd) (hS.tF hkl) (by decide);have ah:H.g≠H.F k:=BD hS.tg (hS.tF hkl) (by decide);have hfa:=h.files.at_ k hkl;have hfb:=hfa.blk;have hfl:=(bl hfb);have hfo:=hfa.row;have hflo:=hfa.lo;have hfv:(H.V k).ownBlock≠some (H.F k):=fun q=>BD (h.tF hkl) (h.tV hkl q) (by decide) rfl;have hfr:RB w (H.V k) (D.files.getD k ([],0)).1:=Zm hfo;have hC:Chg (fun i=>i=(H.F k)) w w:=Acq _ _;refine gG (args:= [PQ bf 0,PQ bd 0]) Tryz.func96 rfl 21 rfl rfl ?_;have hE:=AbN w;refine gM0 [0,1,2,3,4,5,6,7,8] [8] [] fun w2 j=> ?_;have hC:Chg (fun i=>i=(H.F k)) w w2:=(hC.keep j);have hbf:=eb j hbf;have hfb:=eb j hfb;have hE:=hE.trans j;refine ys (Y6 Mm rfl rfl (Ac hbf rfl) zz) (ys (Y6 Mm rfl rfl (Ac hbf rfl) zz) (ys (AbO rfl zz) (ys (AbM O8 rfl zz) (ys (Y6 G8 rfl rfl (Ac hfb rfl) zz) (ys (Zw G8 (Zx (hfr.keep hE) rfl) zz) (ys (AbO rfl zz) (ys (AbM Pa rfl zz) (yC (Za (i:=1) (v:=NI (((D.files.getD k ([],0)).1:Aib).length)) rfl rfl hfb (AcP rfl) DB rfl rfl fun b p r ai=> ?_)))))))));have hC:Chg (fun i=>i=(H.F k)) w b:=Acd hC r (.inl rfl);clear hE;clear hfb;have hfb:=p;clear p;have aj:=bl hfb;have hT1:=h.setFileT (x:=((D.files.getD k ([],0)).1,(D.files.getD k ([],0)).1.length)) hkl (AcI _) (hC.mono fun i _ e=> .inl e) ⟨hfb,C0 hC hfo (fun i e q=>hfv (e.trans (congrArg some q))),hflo⟩ (fun i e=> .inl e);have hbd1:=Ab8 hT1 h hbd0 (by decide) (by decide) (by decide) (by decide);obtain⟨H1,s⟩:∃x,x=({ H with V:=Bj H.V k (H.V k) } :Dk):=⟨_,rfl⟩;obtain⟨D1,hD1⟩:∃x,x=({ D with files:=D.files.set k ((D.files.getD k ([],0)).1,(D.files.getD k ([],0)).1.length) } :Al):=⟨_,rfl⟩;rw[<-s,<-hD1]at hT1;have y:H1.g=H.g:=by rw[s]
 have c:=hT1.st;have f:=f.trans j;have f:=Ad f r (AcG (AcI _) (by omega));have z:=f;have a:=c.blk;have hgl1:=(bl a);rw[<-y]at hbd1;have hm1:=c.now;have ak:bd≠H1.g:=BD (Bp hbd1) c.tg (by decide);have hgm:H1.g≠H1.mn:=BD c.tg c.now.tag (by decide);have hmn1:=c.now.lt;have hC2:Chg (fun i=>i=H1.g) b b:=Acq _ _;have hg1l:=c.lo.1;refine Fg [0,1,2,3,4,5,6,7,8,9,10,11,12] [6,9,12] [] [0,1] fun w9 l=> ?_;have hC2:Chg (fun i=>i=H1.g) b w9:=(hC2.keep l);have hm1:=hm1.keep l;have a:=eb l a;have hbd1:=eb l hbd1;refine RR hbd1 ?_;refine yf (fun _ ⟨hbd1,_⟩=>Y6 UO rfl rfl (Ac hbd1 rfl) zz) (yf (fun _ ⟨hbd1,_⟩=>Y6 UO rfl rfl (Ac hbd1 rfl) zz) (ys (Y6 UO rfl rfl (Ac hbd1 rfl) zz) (ys (AbO rfl zz) (ys (AbM QT rfl zz) (ys (Y6 N1 rfl rfl (Ac a rfl) zz) (yI (Y9 UU rfl ((IW _ hm1).mono ?_))))))));rintro e ab ⟨nm,rfl,hnl,hmm,m⟩;refine⟨_,rfl,?_⟩;have hnl1:b.heap.size<=nm:=AcG hC2.size hnl;have hC2:Chg (fun i=>i=H1.g) b ab:=(hC2.keep m);have hgn:H1.g≠nm:=by omega
 have a:=eb m a;have hbd1:=eb m hbd1;refine⟨⟨hbd1,trivial⟩,?_⟩;refine ys (AbO rfl zz) (ys (AbM QY rfl zz) (yI (Za (i:=2) (v:= .map (some nm)) rfl rfl a (AcP rfl) S7 rfl rfl fun ac t n al=> ?_)));have hm1:=hm1.keep m;have hm1:=Ab2 hm1 n (Co (by omega));have hC2:Chg (fun i=>i=H1.g) b ac:=Acd hC2 n (.inl rfl);have hmm:=Ab2 hmm n (Co (by omega));clear a;have a:=t;clear t;have am:=bl a;have hbd1:=kb n hbd1 (by omega);refine⟨⟨hbd1,trivial⟩,?_⟩;refine ys (AbO rfl zz) (ys (AbM KY rfl zz) (yD rfl (Za (i:=3) (v:=(AcU none 0 0)) rfl rfl a (AcP rfl) S5 rfl rfl fun ad u o an=> ?_)));have hm1:=Ab2 hm1 o (Co (by omega));have hC2:Chg (fun i=>i=H1.g) b ad:=Acd hC2 o (.inl rfl);have hmm:=Ab2 hmm o (Co (by omega));clear a;have a:=u;clear u;have ao:=bl a;refine Gm rfl ?_;have ae:=a;have hT2:=c.syncedT hC2 hnl1 hmm z.size ae;exact⟨_,rfl,by have:=hT1.trans hT2;rw[hD1]at this;exact this⟩
theorem Yz(w0 w:AcE)(c:Ext w0 w)(H:Dk)(D:Al)(hS:DkS w0.heap.size w H D)(bd bn bb:Nat)(s b:Aib)(vb:AcD)(hbd:w.heap[bd]? =some (.cells ([PQ H.g 0]).toArray 25 (0,0)))(hbn:w.heap[bn]? =some (.cells ([St s]).toArray 9 (0,0)))(hbb:w.heap[bb]? =some (.cells ([vb]).toArray 43 (0,0)))(hrb:RB w vb b)(hoff:b= []\/∀i,vb.ownBlock=some i->¬BS H D.files.length i)(hs:Bn s=true)(hbl:b.length<1099511627776)(hfs:∀x∈D.files,x.1.length<1099511627776)(hn:D.acts.length<1099511627776)(k:Nat)(hlk:lookD D.now s=some k):
  Calls AcF 93 #[PQ bd 0,PQ bn 0,PQ bb 0] w fun e w' =>∃H',e = .returned (.tuple #[])/\DkT w0.heap.size w H D w' H' (Bg D s b):=by
 have hb:=hS.blk;have hgl0:=hS.lo.1;have hsz0:=c.size;have aa:=hS;have hrb0:=hrb;have ab:=c;have hT12:=DkT.refl hS;have hkl:=(hS.ok.now.look hlk).1;have hlb:=hfs _ (DC (d:=([],0)) hkl);refine gG (args:= [PQ bd 0,PQ bn 0,PQ bb 0]) Tryz.func93 rfl 32 rfl rfl ?_;have hE:=AbN w;refine gM0 [0,1,2,3,4,5,6] [] [] fun u h=> ?_;have hT12:DkT w0.heap.size w H D u H D:=(hT12.keep h);have hb:=eb h hb;have hbd:=eb h hbd;have hbn:=eb h hbn;refine ys (Y6 UO rfl rfl (Ac hbd rfl) zz) (ys (AbO rfl zz) (ys (AbM QT rfl zz) (ys (Y6 N1 rfl rfl (Ac hb rfl) zz) (ys (Y6 EK rfl rfl (Ac hbn rfl) zz) (ys (ZX FX EH (fun _ _=>DQ) N1 H5 rfl rfl hT12.st.now (BR hs).2 hlk zz) (ys (ZJ Mm rfl zz) (kB (rfl) (cF rfl (gM0 [0,1,2,3,4,5,6] [] [] fun f j=> ?_)))))))));have hT12:DkT w0.heap.size w H D f H D:=(hT12.keep j);have hb:=eb j hb;have hbd:=eb j hbd;have hbn:=eb j hbn;refine ys (Y6 UO rfl rfl (Ac hbd rfl) zz) (ys (AbO rfl zz) (ys (AbM QT rfl zz) (ys (Y6 N1 rfl rfl (Ac hb rfl) zz) (ys (Y6 EK rfl rfl (Ac hbn rfl) zz) (ys (ZX FX EH (fun _ _=>DQ) N1 H5 rfl rfl hT12.st.now (BR hs).2 hlk zz) ?_)))));have hTc:=hT12;have hSc:=hTc.st;have hfa:=hSc.files.at_ k hkl;have hfb:=hfa.blk;have hfl:=(bl hfb);have hfo:=hfa.row;have hflo:=hfa.lo;have hfv:(H.V k).ownBlock≠some (H.F k):=fun q=>BD (hSc.tF hkl) (hSc.tV hkl q) (by decide) rfl;have hC:Chg (fun i=>i=(H.F k)\/(H.V k).ownBlock=some i) f f:=Acq _ _;have hsy:=hSc.ok.syn _ (DC (d:=([],0)) hkl);have hZ1:=h.trans j;have hbb:=eb hZ1 hbb;have hvb:Adp (H.V k)≠some bb:=fun q=>BD (Bp hbb) (hSc.tV hkl q) (by decide) rfl;have ac:bb≠(H.F k):=BD (Bp hbb) (hSc.tF hkl) (by decide);refine gM0 [0,1,2,3,4,5,6,7,8,9] [6,9] [] fun o l=> ?_;have hC:Chg (fun i=>i=(H.F k)\/(H.V k).ownBlock=some i) f o:=(hC.keep l);have hZ2:=hZ1.trans l;have hE:=hE.trans hZ2;have c:=c.trans hZ2;have hbb:=eb l hbb;have hfb:=eb l hfb;have hfo:=Ab5 _ _ _ _ _ _ _ _ hfo l;refine ys (AbO rfl zz) (ys (AbM O8 rfl zz) (ys (Y6 G8 rfl rfl (Ac hfb rfl) zz) (ys (Y6 G8 rfl rfl (Ac hbb rfl) zz) (yC (ZR _ _ w0.heap.size (.int .u8 0) G8 P5 rfl G8 ((D.files.getD k ([],0)).1) (b) (G7 hfo (vr (H.V k) rfl)) (Zx (hrb.keep hE) (vr vb rfl)) (by omega) c.size fun n p m a=> ?_)))));have a:Grew o p (H.V k) n:=a;have y:Adp n≠some (H.F k):=Cc a hfv (bl hfb);have hbb:=AW hbb a hvb;clear hE;have c:=Br c a hfo (AcI _);have hfb:=AW hfb a hfv;have hvf:=fun i e=>(a.fresh i e).imp id (fun q=>AcG hC.size q);have hC:Chg (fun i=>i=(H.F k)\/(H.V k).ownBlock=some i) f p:=Aaq hC a (fun i e=> .inl (.inr e));clear hfo;refine ys (AbO rfl zz) (ys (AbM O8 rfl zz) (yC (Za (i:=0) (v:=n) rfl rfl hfb (AcP rfl) Mo (CD m).1 (CD m).2 fun z r t ad=> ?_)));have hC:Chg (fun i=>i=(H.F k)\/(H.V k).ownBlock=some i) f z:=Acd hC t (.inl (.inl rfl));clear hfb;have hfb:=r;clear r;have ae:=bl hfb;refine Gm rfl ?_;have m:=EI m t y;have hTf:=hSc.setFileT (x:=((D.files.getD k ([],0)).1++b,(D.files.getD k ([],0)).2)) hkl (by simp only[AcJ];omega) hC ⟨hfb,(show AhH _ _ _ _ _ _ _ from by simpa using m),hflo⟩ hvf;exact⟨_,rfl,by rw[WI hlk];exact hTc.trans hTf⟩
theorem YA(w0 w:AcE)(a:Ext w0 w)(H:Dk)(D:Al)(hS:DkS w0.heap.size w H D)(bd bn bb:Nat)(s b:Aib)(vb:AcD)(hbd:w.heap[bd]? =some (.cells ([PQ H.g 0]).toArray 25 (0,0)))(hbn:w.heap[bn]? =some (.cells ([St s]).toArray 9 (0,0)))(hbb:w.heap[bb]? =some (.cells ([vb]).toArray 43 (0,0)))(hrb:RB w vb b)(hoff:b= []\/∀i,vb.ownBlock=some i->¬BS H D.files.length i)(hs:Bn s=true)(hbl:b.length<1099511627776)(hfs:∀x∈D.files,x.1.length<1099511627776)(hn:D.acts.length<1099511627776)(hlk:lookD D.now s=none):
  Calls AcF 93 #[PQ bd 0,PQ bn 0,PQ bb 0] w fun e w' =>∃H',e = .returned (.tuple #[])/\DkT w0.heap.size w H D w' H' (Bg D s b):=by
 have hb:=hS.blk;have hgl0:=hS.lo.1;have hsz0:=a.size;have ap:=hS;have hrb0:=hrb;have aq:=a;have hT12:=DkT.refl hS;refine gG (args:= [PQ bd 0,PQ bn 0,PQ bb 0]) Tryz.func93 rfl 32 rfl rfl ?_;have hE:=AbN w;refine gM0 [0,1,2,3,4,5,6] [] [] fun w3 j=> ?_;have hT12:DkT w0.heap.size w H D w3 H D:=(hT12.keep j);have hb:=eb j hb;have hbd:=eb j hbd;have hbn:=eb j hbn;refine ys (Y6 UO rfl rfl (Ac hbd rfl) zz) (ys (AbO rfl zz) (ys (AbM QT rfl zz) (ys (Y6 N1 rfl rfl (Ac hb rfl) zz) (ys (Y6 EK rfl rfl (Ac hbn rfl) zz) (ys (AaA FX EH (fun _ _=>DQ) N1 H5 rfl rfl hT12.st.now (BR hs).2 hlk zz) (ys (ZJ Mm rfl zz) (kB (rfl) (cT rfl (gS (Ace (v:= .agg #[.slice none 0 0,NI 0]) (by kernel_rfl) ?_))))))))));have hE:=hE.trans j;have hzb:=hE.size;refine gS (Ab3 (cs:=([.slice none 0 0,NI 0]:List AcD).toArray) (show _=(.agg ([.slice none 0 0,NI 0]:List AcD).toArray:AcD)from rfl) fun m w7 a0 ag aa a1=> ?_);have c:=AbN w3;have a:=a.trans j;have a2:=hE.size;have a3:=a.size;have ab:=ag;clear ag;have a4:m<w7.heap.size:=by omega
 refine gS (AbV S8 fun n ar a5 ah y a6=> ?_);have o:=AbN w7;have hE:=hE.trans aa;have a:=a.trans aa;have c:=c.trans aa;have au:=hE.size;have av:=a.size;have p:=ah;clear ah;have a7:n<ar.heap.size:=by omega
 refine gS (Za (i:=0) (v:=PQ m 0) rfl rfl p (AcP rfl) QZ rfl rfl fun a8 ai z a9=> ?_);clear p;have p:=ai;clear ai;have ba:=bl p;have aw:=c.size;have c:=c.trans y;have c:=Ad c z (AcG aw (by omega));have hbd:=eb c hbd;refine gS (Y6 UO rfl rfl (Ac hbd rfl) (gS (Zu (vs:= #[PQ n 0,PQ bn 0]) (by simp only[AcT,AcX,Ac2];exact congrArg Adf (B6 (vr (PQ n 0) rfl) (vr (PQ bn 0) rfl))) ?_)));have o:=o.trans y;have o:=Ad o z (AcG (AcI _) (by omega));have ab:=eb o ab;have hE:=hE.trans y;have hE:=Ad hE z (AcG au (by omega));have hT1:=ap.newFileT (f:=m) hE (by omega) ab aq.size;obtain⟨H1,ac⟩:∃x,x=({ H with F:=Bj H.F D.files.length m,V:=Bj H.V D.files.length (.slice none 0 0) } :Dk):=⟨_,rfl⟩;obtain⟨D1,hD1⟩:∃x,x=({ D with files:=D.files++ [([],0)] } :Al):=⟨_,rfl⟩;rw[<-ac,<-hD1]at hT1;have r:=hT1.st;have aj:H1.g=H.g:=by rw[ac]
 have hF1:H1.F D.files.length=m:=by rw[ac];exact BK _ _ _
 have hD1l:D1.files.length=D.files.length+1:=by rw[hD1];simp
 have hsl:=(BR hs).1;have hbd1:=hbd;have hbn:=eb c hbn;have hbn1:=hbn;have hbb:=eb (j.trans c) hbb;have hbb1:=hbb;have hrb1:=(hrb.keep hE);have a:=a.trans y;have a:=Ad a z (AcG av (by omega));refine gS (Zb J5 rfl rfl ((WH w0 _ a H1 D1 r H.g aj (.func (.func 95) #[] #[PQ n 0,PQ bn 0]) ⟨[],s,D.files.length⟩ ⟨by rw[hD1l];exact Nat.lt_succ_self _,fun _=>hs,AcZ _⟩ (.inl ⟨n,bn,rfl,by rw[hF1];exact p,hbn,rfl,show s.length≠0 from by omega⟩) (by rw[hD1];exact hn)).mono ?_));rintro e bc ⟨va2,rfl,hT2⟩;refine⟨_,rfl,?_⟩;have a:=Chg.ext a hT2.chg (fun i q=>(r.foot q).2.2);have hT12:=hT1.trans hT2;obtain⟨H2,ak⟩:∃x,x=({ H1 with va:=va2 } :Dk):=⟨_,rfl⟩;obtain⟨D2,hD2⟩:∃x,x=turnedD D1 ⟨[],s,D.files.length⟩:=⟨_,rfl⟩;rw[<-ak,<-hD2]at hT12;have ax:H2.g=H.g:=by rw[ak];exact aj
 have hlk2:lookD D2.now s=some D.files.length:=by rw[hD2];exact(look_turn _ _ _).trans ((if_neg (show s.length≠0 by omega)).trans (if_pos rfl))
 have hkl:=(hT12.st.ok.now.look hlk2).1;have hlb:(D2.files.getD D.files.length ([],0)).1.length<1099511627776:=by rw[hD2,hD1];show((D.files++ [(([]:Aib),0)]).getD D.files.length ([],0)).1.length<_;rw[FQ];decide
 have hoff1:=UT hT1 hrb0 hoff;have hbd:=Ab8 hT2 r hbd1 (by decide) (by decide) (by decide) (by decide);have hbn:=Ab8 hT2 r hbn1 (by decide) (by decide) (by decide) (by decide);have hbb:=Ab8 hT2 r hbb1 (by decide) (by decide) (by decide) (by decide);have hrb:=hrb1.chg hT2.chg hoff1;have hb:=eb c hb;have hb:=hT12.st.blk;rw[ax]at hb;have hgl2:=(bl hb);refine gM0 [0,1,2,3,4,5,6] [] [] fun k l=> ?_;have hT12:DkT w0.heap.size w H D k H2 D2:=(hT12.keep l);have hb:=eb l hb;have hbd:=eb l hbd;have hbn:=eb l hbn;refine ys (Y6 UO rfl rfl (Ac hbd rfl) zz) (ys (AbO rfl zz) (ys (AbM QT rfl zz) (ys (Y6 N1 rfl rfl (Ac hb rfl) zz) (ys (Y6 EK rfl rfl (Ac hbn rfl) zz) (ys (ZX FX EH (fun _ _=>DQ) N1 H5 rfl rfl hT12.st.now (BR hs).2 hlk2 zz) ?_)))));have hTc:=hT12;have hSc:=hTc.st;have hfa:=hSc.files.at_ (D.files.length) hkl;have hfb:=hfa.blk;have hfl:=(bl hfb);have hfo:=hfa.row;have hflo:=hfa.lo;have hfv:(H2.V (D.files.length)).ownBlock≠some (H2.F (D.files.length)):=fun q=>BD (hSc.tF hkl) (hSc.tV hkl q) (by decide) rfl;have hC:Chg (fun i=>i=(H2.F (D.files.length))\/(H2.V (D.files.length)).ownBlock=some i) k k:=Acq _ _;have hsy:=hSc.ok.syn _ (DC (d:=([],0)) hkl);have hbb:=eb l hbb;have hvb:Adp (H2.V (D.files.length))≠some bb:=fun q=>BD (Bp hbb) (hSc.tV hkl q) (by decide) rfl;have be:bb≠(H2.F (D.files.length)):=BD (Bp hbb) (hSc.tF hkl) (by decide);refine gM0 [0,1,2,3,4,5,6,7,8,9] [6,9] [] fun al t=> ?_;have hC:Chg (fun i=>i=(H2.F (D.files.length))\/(H2.V (D.files.length)).ownBlock=some i) k al:=(hC.keep t);have hZ1:=l.trans t;have a:=a.trans hZ1;have hrb:=hrb.keep hZ1;have hbb:=eb t hbb;have hfb:=eb t hfb;have hfo:=Ab5 _ _ _ _ _ _ _ _ hfo t;refine ys (AbO rfl zz) (ys (AbM O8 rfl zz) (ys (Y6 G8 rfl rfl (Ac hfb rfl) zz) (ys (Y6 G8 rfl rfl (Ac hbb rfl) zz) (yC (ZR _ _ w0.heap.size (.int .u8 0) G8 P5 rfl G8 ((D2.files.getD (D.files.length) ([],0)).1) (b) (G7 hfo (vr (H2.V (D.files.length)) rfl)) (Zx hrb (vr vb rfl)) (by omega) a.size fun ad am u h=> ?_)))));have h:Grew al am (H2.V (D.files.length)) ad:=h;have ay:Adp ad≠some (H2.F (D.files.length)):=Cc h hfv (bl hfb);have a:=Br a h hfo (AcI _);have hbb:=AW hbb h hvb;clear hrb;have hfb:=AW hfb h hfv;have hvf:=fun i e=>(h.fresh i e).imp id (fun q=>AcG hC.size q);have hC:Chg (fun i=>i=(H2.F (D.files.length))\/(H2.V (D.files.length)).ownBlock=some i) k am:=Aaq hC h (fun i e=> .inl (.inr e));clear hfo;refine ys (AbO rfl zz) (ys (AbM O8 rfl zz) (yC (Za (i:=0) (v:=ad) rfl rfl hfb (AcP rfl) Mo (CD u).1 (CD u).2 fun az an ao bf=> ?_)));have hC:Chg (fun i=>i=(H2.F (D.files.length))\/(H2.V (D.files.length)).ownBlock=some i) k az:=Acd hC ao (.inl (.inl rfl));clear hfb;have hfb:=an;clear an;have bg:=bl hfb;refine Gm rfl ?_;have u:=EI u ao ay;have hTf:=hSc.setFileT (x:=((D2.files.getD (D.files.length) ([],0)).1++b,(D2.files.getD (D.files.length) ([],0)).2)) hkl (by simp only[AcJ];omega) hC ⟨hfb,(show AhH _ _ _ _ _ _ _ from by simpa using u),hflo⟩ hvf;exact⟨_,rfl,by rw[<-WJ hlk];have:=hTc.trans hTf;rw[hD2,hD1]at this;exact this⟩
theorem Aa6{P:AcY}{K:AcD->AcE->Prop}{ρ:Aj}{w:AcE}{d:Option Tmp}{ty:AcK}{pos:String}{af:Array Edge}{gd:Option (Nat × Bool)}{f:FuncId}{c:AcO}{v:AcD}{caps:Array AcD}{R:AcE->Prop}{at_:Array AcK}(hp:Plain P f)(hc:Ab ρ c=v)(hve:v = .func (.func f) #[] caps) 
  (h:Calls P f caps w fun e w' =>e = .returned (.tuple #[])/\R w') (hk:∀w',R w' ->K (.tuple #[]) w'):Yk P K ((execOp (Ab ρ) ⟨d, .call ⟨.value c,#[],at_⟩,ty,pos,af,gd⟩).run P w):=
 ZA hp (hc.trans hve) _ (by simp) (h.mono fun e w' q=>⟨_,q.1,hk w' q.2⟩)
theorem CY:AC AcF 82 5 5:=fun b o w=>by simp[go_sem]
theorem UV:(Tryz.prog.info? 4).map (·.size)=some 1:=by kernel_rfl
theorem KZ(w0 w:AcE)(l:Ext w0 w)(H:Dk)(D:Al)(hS:DkS w0.heap.size w H D)(hdn:D.down=false)(har:D.arm<9223372036854775808)(v:AcD)(f:FuncId)(caps:Array AcD)(hpl:Plain AcF f)(hve:v = .func (.func f) #[] caps)(g:Al->Al) 
  (hc:∀w1 D1,DkT w0.heap.size w H D w1 H D1->D1=(B0 D).1->Calls AcF f caps w1 fun e w' =>e = .returned (.tuple #[])/\∃H',DkT w0.heap.size w1 H D1 w' H' (g D1)):
  Calls AcF 92 #[PQ H.g 0,v] w fun e w' =>∃H',e = .returned (NI (Dx D g).2)/\DkT w0.heap.size w H D w' H' (Dx D g).1:=by
 have hb:=hS.blk;have hgl:=(bl hb);have hgl0:=hS.lo.1;have hsz0:=l.size;have c:=hS;have hgr:=Adb w (some H.g);refine gG (args:= [PQ H.g 0,v]) Tryz.func92 rfl 27 rfl rfl ?_;have hE:=AbN w;by_cases ha0:D.arm=0
 ·have hA:B0 D=(D,false):=if_pos ha0;have hV:Dx D g=(g D,0):=by unfold Dx;rw[hA];rfl
  refine gS (AbO rfl (gS (AbM CY rfl (gS (Y6 Nw rfl rfl (Ac hb rfl) (gS (Y7 (a:=(D.arm:Nat)) (b:=(0:Nat)) rfl rfl (CQ _ _ _ _) (kF (by omega) (cF rfl ?_)))))))));have hT1:=Acg c hE;have hD1:D=(B0 D).1:=by rw[hA]
  refine gS (Aa6 hpl rfl hve (hc _ _ hT1 hD1) fun s hR6=> ?_);obtain⟨H3,hT2⟩:=hR6;have hT3:=hT1.trans hT2;refine AE rfl (vr (NI 0) rfl) ?_;exact⟨H3,by rw[hV],by rw[hV];exact hT3⟩
 have hA:B0 D=({ D with arm:=D.arm-1,down:=decide (D.arm-1=0) },decide (D.arm-1=0)):=if_neg ha0;by_cases ha1:D.arm-1=0
 ·rw[decide_eq_true ha1]at hA;have hV:Dx D g=({ D with arm:=D.arm-1,down:=true },9):=by unfold Dx;rw[hA];rfl
  refine gS (AbO rfl (gS (AbM CY rfl (gS (Y6 Nw rfl rfl (Ac hb rfl) (gS (Y7 (a:=(D.arm:Nat)) (b:=(0:Nat)) rfl rfl (CQ _ _ _ _) (kT (by omega) (cT rfl (gS (AbO rfl (gS (AbM CY rfl (gS (Y6 Nw rfl rfl (Ac hb rfl) (gS (Ze (xv:=NI D.arm) (yv:=NI 1) rfl rfl rfl (Fk _ _ _ (by omega) (by omega)) (gS (AbO rfl (gS (AbM CY rfl (gS (Za (i:=5) (v:=NI ((D.arm)-(1))) rfl rfl hb (AcP rfl) DB rfl rfl fun m h n t=> ?_)))))))))))))))))))))));have hgr:w.grownBy m (some H.g):=Aa hgr n (fun _ e=> .inl e);clear hE;clear hb;have hb:=h;clear h;have u:=bl hb;refine gS (AbO rfl (gS (AbM CY rfl (gS (Y6 Nw rfl rfl (Ac hb rfl) (gS (Y7 (a:=((D.arm)-(1):Nat)) (b:=(0:Nat)) rfl rfl (AK _ _ _ _) (kT (by omega) (cT rfl (gS (AbO rfl (gS (AbM QS rfl (gS (Za (i:=6) (v:= .bool (true)) rfl rfl hb (AcP rfl) UV rfl rfl fun o j p x=> ?_)))))))))))))));have hgr:w.grownBy o (some H.g):=Aa hgr p (fun _ e=> .inl e);clear hb;have hb:=j;clear j;have y:=bl hb;refine AE rfl (vr (NI 9) rfl) ?_;exact⟨H,by rw[hV],by rw[hV];exact c.setBlkT hgr hb⟩
 rw[decide_eq_false ha1]at hA;have hV:Dx D g=(g { D with arm:=D.arm-1,down:=false },0):=by unfold Dx;rw[hA];rfl
 refine gS (AbO rfl (gS (AbM CY rfl (gS (Y6 Nw rfl rfl (Ac hb rfl) (gS (Y7 (a:=(D.arm:Nat)) (b:=(0:Nat)) rfl rfl (CQ _ _ _ _) (kT (by omega) (cT rfl (gS (AbO rfl (gS (AbM CY rfl (gS (Y6 Nw rfl rfl (Ac hb rfl) (gS (Ze (xv:=NI D.arm) (yv:=NI 1) rfl rfl rfl (Fk _ _ _ (by omega) (by omega)) (gS (AbO rfl (gS (AbM CY rfl (gS (Za (i:=5) (v:=NI ((D.arm)-(1))) rfl rfl hb (AcP rfl) DB rfl rfl fun q k r z=> ?_)))))))))))))))))))))));have hgr:w.grownBy q (some H.g):=Aa hgr r (fun _ e=> .inl e);clear hE;clear hb;have hb:=k;clear k;have aa:=bl hb;refine gS (AbO rfl (gS (AbM CY rfl (gS (Y6 Nw rfl rfl (Ac hb rfl) (gS (Y7 (a:=((D.arm)-(1):Nat)) (b:=(0:Nat)) rfl rfl (AK _ _ _ _) (kF (by omega) (cF rfl ?_)))))))));have hT1:=c.setBlkT hgr hb;have hD1:({ D with quota:=D.quota,refused:=D.refused,arm:=D.arm-1,down:=D.down } :Al)=(B0 D).1:=by rw[hA,hdn]
 refine gS (Aa6 hpl rfl hve (hc _ _ hT1 hD1) fun ab hR35=> ?_);obtain⟨H3,hT2⟩:=hR35;have hT3:=hT1.trans hT2;refine AE rfl (vr (NI 0) rfl) ?_;exact⟨H3,by rw[hV],by rw[hV];rw[<-hdn];exact hT3⟩
structure EB (D : Al) : Prop where
 quota:D.quota<=1073741824
 used:usedD D<4611686018427387904
 refused:D.refused<4611686018427387904
 arm:D.arm<9223372036854775808
 acts:D.acts.length<1099511627776
 now:D.now.length<1099511627776
 kept:D.kept.length+D.acts.length<1099511627776
 files:∀x∈D.files,x.1.length<1099511627776
theorem N4(D:Al)(s t:Aib):readyL D [t,s]=Cy D s t:=by
 unfold readyL Cy;by_cases h:D.down=true
 ·rw[if_pos h,if_pos h]
 ·rw[if_neg h,if_neg h];simp only[AhE,List.all_nil,Bool.and_true,Ada];by_cases h1:Bn s=true <;> by_cases h2:Bn t=true <;> simp[h1,h2]
theorem Gz(D:Al)(s:Aib):readyL D [s]=Cy D s s:=by
 rw[<-N4];unfold readyL;simp
theorem WK(w0 w:AcE)(c:Ext w0 w)(H:Dk)(D:Al)(hS:DkS w0.heap.size w H D)(bd bn bb:Nat)(s b:Aib)(vb:AcD)(hbd:w.heap[bd]? =some (.cells ([PQ H.g 0]).toArray 25 (0,0)))(hbn:w.heap[bn]? =some (.cells ([St s]).toArray 9 (0,0)))(hbb:w.heap[bb]? =some (.cells ([vb]).toArray 43 (0,0))) 
  (hrb:RB w vb b) (hoff:b= []\/∀i,vb.ownBlock=some i->¬BS H D.files.length i) (hs:Bn s=true) (hbl:b.length<1099511627776) (hfs:∀x∈D.files,x.1.length<1099511627776) (hn:D.acts.length<1099511627776):
  ∀w1 D1,DkT w0.heap.size w H D w1 H D1->D1=(B0 D).1->Calls AcF 93 #[PQ bd 0,PQ bn 0,PQ bb 0] w1 fun e w' =>e = .returned (.tuple #[])/\∃H',DkT w0.heap.size w1 H D1 w' H' (Bg D1 s b):=by
 intro w1 D1 hT hD1;have hf:=En D;rw[<-hD1]at hf;have a:Ext w0 w1:=Chg.ext c hT.chg (fun i q=>(hS.foot q).2.2);have h1:=Ab8 hT hS hbd (by decide) (by decide) (by decide) (by decide);have h2:=Ab8 hT hS hbn (by decide) (by decide) (by decide) (by decide);have h3:=Ab8 hT hS hbb (by decide) (by decide) (by decide) (by decide);have h4:=hrb.chg hT.chg hoff;have h5:b= []\/∀i,vb.ownBlock=some i->¬BS H D1.files.length i:=by rw[hf.1];exact hoff
 cases hlk:lookD D1.now s with
 | none=>exact(YA w0 w1 a H D1 hT.st bd bn bb s b vb h1 h2 h3 h4 h5 hs hbl (by rw[hf.1];exact hfs) (by rw[hf.2.2.2.1];exact hn) hlk).mono fun e w' ⟨H',q1,q2⟩=>⟨q1,H',q2⟩
 | some k=>exact(Yz w0 w1 a H D1 hT.st bd bn bb s b vb h1 h2 h3 h4 h5 hs hbl (by rw[hf.1];exact hfs) (by rw[hf.2.2.2.1];exact hn) k hlk).mono fun e w' ⟨H',q1,q2⟩=>⟨q1,H',q2⟩
theorem AaO{P:AcY}{K:AcD->AcE->Prop}{ρ:Aj}{w:AcE}{d:Option Tmp}{ty:AcK}{pos:String}{af:Array Edge}{gd:Option (Nat × Bool)}{α:Type}{enc:α->List AcD}{t e:AcK}{x:AcO}{a:α}{u:AcD}(hx:Ab ρ x=u)(hu:enc a= [u]) 
  (hr:∀w:AcE,(Adc t 1 #[(0,u)]).run P w = .ok (.slice (some ⟨w.heap.size,0,none⟩) 1 1) (w.alloc (.cells #[u] e)))
  (hk:∀n w',FullG 1 enc w' (.slice (some ⟨n,0,none⟩) 1 1) [a]->Ext w w' ->K (.slice (some ⟨n,0,none⟩) 1 1) w'):Yk P K ((execOp (Ab ρ) ⟨d, .buildSlice t 1 #[(0,x)],ty,pos,af,gd⟩).run P w):=by
 have hE:Ext w (w.alloc (.cells #[u] e)):=(AdA _ _).alloc (AcI _) _;have hb:(w.alloc (.cells #[u] e)).heap[w.heap.size]? =some (.cells ([u]:List AcD).toArray e (0,0)):=heap_alloc_new w _;refine AbU (v:= .slice (some ⟨w.heap.size,0,none⟩) 1 1) (w' :=w.alloc (.cells #[u] e)) ?_ (hk _ _ (.inr ⟨_,rfl,fun y hy=>by rw[Adn.1 hy,hu];rfl,by simp[hu],_,1,rfl,AcI _,by simp[maxLen],(fun hq=>by cases hq),fun q hq j z hz=> ?_⟩) hE)
 ·unfold execOp;simp only[AcT,AcX,Ac2,hx,AcN,hr,AcM,AcR]
 ·cases hq;rw[Addr.add_lit,Aem];exact Ac hb (by simpa [hu] using hz)
theorem Ht(D:Al)(s:Aib):Fa D s s=DK D [] s:=by
 unfold Fa DK;rw[Adm,Gz] <;>
 (by_cases h:Cy D s s≠0
  ·rw[if_pos h,if_pos h]
  ·rw[if_neg h,if_neg h] <;> (cases lookD D.now s <;> rfl))
theorem S9(D:Al)(s t:Aib):Fa D s t=DK D [t] s:=by
 unfold Fa DK;rw[show [t]++ [s]= [t,s]from rfl,N4] <;>
 (by_cases h:Cy D s t≠0
  ·rw[if_pos h,if_pos h]
  ·rw[if_neg h,if_neg h] <;> (cases lookD D.now s <;> rfl))
theorem Jk{D:Al}{ms:List Aib}{s:Aib}{c:Nat}(h:DK D ms s = .error c):c≠0:=by
 unfold DK at h;split at h
 ·rename_i hn;cases h;exact hn
 ·split at h
  ·cases h
  ·cases h;decide
theorem Jl{D:Al}{ms:List Aib}{s:Aib}{k:Nat}(h:DK D ms s = .ok k):D.down=false/\lookD D.now s=some k/\∀t∈ms,Bn t=true:=by
 unfold DK at h;split at h
 ·cases h
 ·rename_i hn
  have hn:readyL D (ms++ [s])=0:=Classical.not_not.1 hn;split at h
  ·rename_i k' hk
   cases h;unfold readyL at hn;split at hn
   ·cases hn
   ·rename_i hd
    split at hn
    ·rename_i ha
     exact⟨AgF.2 hd,hk,fun t ht=>Ady.1 ha t (List.mem_append_left _ ht)⟩
    ·cases hn
  ·cases h
theorem UW(w0 w:AcE)(a:Ext w0 w)(H:Dk)(D:Al)(hS:DkS w0.heap.size w H D)(bf bd k:Nat)(hbf:w.heap[bf]? =some (.cells ([PQ (H.F k) 0]).toArray 112 (0,0)))(hbd:w.heap[bd]? =some (.cells ([PQ H.g 0]).toArray 25 (0,0)))(hk:k<D.files.length):
  ∀w1 D1,DkT w0.heap.size w H D w1 H D1->D1=(B0 D).1->Calls AcF 96 #[PQ bf 0,PQ bd 0] w1 fun e w' =>e = .returned (.tuple #[])/\∃H',DkT w0.heap.size w1 H D1 w' H' { D1 with files:=D1.files.set k ((Aq D1 k).1,(Aq D1 k).1.length),kept:=D1.now,acts:= [] } :=by
 intro w1 D1 hT hD1;have hf:=En D;rw[<-hD1]at hf;have b:Ext w0 w1:=Chg.ext a hT.chg (fun i q=>(hS.foot q).2.2);exact(Yy w0 w1 b H D1 hT.st bf bd k (Ab8 hT hS hbf (by decide) (by decide) (by decide) (by decide)) (Ab8 hT hS hbd (by decide) (by decide) (by decide) (by decide)) (by rw[hf.1];exact hk)).mono fun e w' ⟨H',q1,q2⟩=>⟨q1,H',q2⟩
theorem UX(w0 w:AcE)(a:Ext w0 w)(H:Dk)(D:Al)(hS:DkS w0.heap.size w H D)(bd bs bf bn k:Nat)(s t:Aib)(hbd:w.heap[bd]? =some (.cells ([PQ H.g 0]).toArray 25 (0,0)))(hbs:w.heap[bs]? =some (.cells ([St s]).toArray 9 (0,0)))(hbf:w.heap[bf]? =some (.cells ([PQ (H.F k) 0]).toArray 112 (0,0)))(hbn:w.heap[bn]? =some (.cells ([St t]).toArray 9 (0,0))) 
  (hk:k<D.files.length) (hs:Bn s=true) (ht:Bn t=true) (hn:D.acts.length<1099511627776):
  ∀w1 D1,DkT w0.heap.size w H D w1 H D1->D1=(B0 D).1->Calls AcF 126 #[PQ bd 0,PQ bs 0,PQ bf 0,PQ bn 0] w1 fun e w' =>e = .returned (.tuple #[])/\∃H',DkT w0.heap.size w1 H D1 w' H' (turnedD D1 ⟨s,t,k⟩):=by
 intro w1 D1 hT hD1;have hf:=En D;rw[<-hD1]at hf;have b:Ext w0 w1:=Chg.ext a hT.chg (fun i q=>(hS.foot q).2.2);exact(Yw w0 w1 b H D1 hT.st bd bs bf bn k s t (Ab8 hT hS hbd (by decide) (by decide) (by decide) (by decide)) (Ab8 hT hS hbs (by decide) (by decide) (by decide) (by decide)) (Ab8 hT hS hbf (by decide) (by decide) (by decide) (by decide)) (Ab8 hT hS hbn (by decide) (by decide) (by decide) (by decide)) (by rw[hf.1];exact hk) hs ht (by rw[hf.2.2.2.1];exact hn)).mono fun e w' ⟨H',q1,q2⟩=>⟨q1,H',q2⟩
theorem UY(w0 w:AcE)(a:Ext w0 w)(H:Dk)(D:Al)(hS:DkS w0.heap.size w H D)(bd bs k:Nat)(s:Aib)(hbd:w.heap[bd]? =some (.cells ([PQ H.g 0]).toArray 25 (0,0)))(hbs:w.heap[bs]? =some (.cells ([St s]).toArray 9 (0,0))) 
  (hk:k<D.files.length) (hs:Bn s=true) (hn:D.acts.length<1099511627776):
  ∀w1 D1,DkT w0.heap.size w H D w1 H D1->D1=(B0 D).1->Calls AcF 119 #[PQ bd 0,PQ bs 0] w1 fun e w' =>e = .returned (.tuple #[])/\∃H',DkT w0.heap.size w1 H D1 w' H' (turnedD D1 ⟨s,[],k⟩):=by
 intro w1 D1 hT hD1;have hf:=En D;rw[<-hD1]at hf;have b:Ext w0 w1:=Chg.ext a hT.chg (fun i q=>(hS.foot q).2.2);exact(Yx w0 w1 b H D1 hT.st bd bs k s (Ab8 hT hS hbd (by decide) (by decide) (by decide) (by decide)) (Ab8 hT hS hbs (by decide) (by decide) (by decide) (by decide)) (by rw[hf.1];exact hk) hs (by rw[hf.2.2.2.1];exact hn)).mono fun e w' ⟨H',q1,q2⟩=>⟨q1,H',q2⟩
theorem K0:AC AcF 82 0 0:=fun b o w=>by simp[go_sem]
theorem N5:Plain AcF 62:=fun _ _=>by kernel_rfl
theorem K4:AC AcF 82 4 4:=fun b o w=>by simp[go_sem]
theorem H7:Plain AcF 92:=fun _ _=>by kernel_rfl
theorem Fq:Plain AcF 73:=fun _ _=>by kernel_rfl
theorem Ta(w0 w:AcE)(h:Ext w0 w)(H:Dk)(D:Al)(hS:DkS w0.heap.size w H D)(s:Aib)(vb:AcD)(b:Aib)(hrb:RB w vb b)(hoff:b= []\/∀i,vb.ownBlock=some i->¬BS H D.files.length i)(hbl:b.length<1099511627776)(hL:EB D):
  Calls AcF 44 #[PQ H.g 0,St s,vb] w fun e w' =>∃H',e = .returned (NI (BV D s b).2)/\DkT w0.heap.size w H D w' H' (BV D s b).1:=by
 have hb:=hS.blk;have hgl:=(bl hb);have hgl0:=hS.lo.1;have hsz0:=h.size;have ag:=hS;have hgr:=Adb w (some H.g);refine gG (args:= [PQ H.g 0,St (s),vb]) Tryz.func44 rfl 35 rfl rfl ?_;have hE:=AbN w;refine gS (ZM (vr (PQ H.g 0) rfl) rfl fun o w3 ak al u bk=> ?_);have bm:=hE.size;have bn:=h.size;have hgr:w.grownBy w3 (some H.g):=Aa hgr u.grown (fun _ e=>by cases e);have c:=al;clear al;have bo:o<w3.heap.size:=by omega
 refine gS (ZM (vr (St (s)) rfl) rfl fun p am x an l bp=> ?_);have hE:=hE.trans u;have h:=h.trans u;have bq:=hE.size;have br:=h.size;have hgr:w.grownBy am (some H.g):=Aa hgr l.grown (fun _ e=>by cases e);have f:=an;clear an;have bs:p<am.heap.size:=by omega
 have hE:=hE.trans l;refine gS (ZM (vr vb rfl) (AcA (hrb.keep hE)).1 fun t ao m ap j bt=> ?_);have h:=h.trans l;have bu:=hE.size;have bv:=h.size;have hgr:w.grownBy ao (some H.g):=Aa hgr j.grown (fun _ e=>by cases e);have k:=ap;clear ap;have bw:t<ao.heap.size:=by omega
 have hq0:=hL.quota;have hq1:=hL.used;by_cases y:Cy D s s≠0
 ·have hV:BV D s b=(D,Cy D s s):=if_pos y;have aq:=AR (bl c) x;have c:=eb l c;have ar:=AR (bl c) m;have c:=eb j c;have au:=AR (bl f) m;have f:=eb j f;refine gS (Y6 UO rfl rfl (Ac c rfl) (gS (Y6 EK rfl rfl (Ac f rfl) (gS (ZW (a:=s) (enc:=FO) (vr (St (s)) rfl) rfl (fun w=>IV _ w) fun a1 a2 a3 av=> ?_)))));have hgr:w.grownBy a2 (some H.g):=Aa hgr av.grown (fun _ e=>by cases e);have hZ1:=j.trans av;have hE:=hE.trans hZ1;refine gS (Zb J3 rfl rfl ((Fp w0.heap.size _ H D (hS.keep hE) a1 [s] a3 (by simp)).mono ?_));rintro e a4 ⟨rfl,aw⟩;refine⟨_,rfl,?_⟩;have hgr:w.grownBy a4 (some H.g):=Aa hgr aw.grown (fun _ e=>by cases e);refine gS (Y7 (a:=(readyL D [s]:Nat)) (b:=(0:Nat)) rfl rfl (AX _ _ _ _) (kT (by rw[Gz];omega) (cT rfl (AE rfl (vr (NI (readyL D [s])) rfl) ?_))));have hE:=hE.trans aw;exact⟨H,by rw[hV,Gz],by rw[hV];exact Acg ag hE⟩
 have a5:Cy D s s=0:=Classical.not_not.1 y;obtain⟨hdn,hs,-⟩:=UL a5;by_cases hq:D.quota<usedD D+b.length
 ·have hV:BV D s b=({ D with refused:=D.refused+1 },8):=(if_neg y).trans (if_pos hq);have aq:=AR (bl c) x;have c:=eb l c;have ar:=AR (bl c) m;have c:=eb j c;have au:=AR (bl f) m;have f:=eb j f;refine gS (Y6 UO rfl rfl (Ac c rfl) (gS (Y6 EK rfl rfl (Ac f rfl) (gS (ZW (a:=s) (enc:=FO) (vr (St (s)) rfl) rfl (fun w=>IV _ w) fun a6 a7 ax ah=> ?_)))));have hgr:w.grownBy a7 (some H.g):=Aa hgr ah.grown (fun _ e=>by cases e);have hZ2:=j.trans ah;have hE:=hE.trans hZ2;refine gS (Zb J3 rfl rfl ((Fp w0.heap.size _ H D (hS.keep hE) a6 [s] ax (by simp)).mono ?_));rintro e a8 ⟨rfl,z⟩;refine⟨_,rfl,?_⟩;have hgr:w.grownBy a8 (some H.g):=Aa hgr z.grown (fun _ e=>by cases e);refine gS (Y7 (a:=(readyL D [s]:Nat)) (b:=(0:Nat)) rfl rfl (AX _ _ _ _) (kF (by rw[Gz];omega) (cF rfl (Fg [0,1,2,3,4,5,6,7,8,9] [7] [1,3,4] [0,2,5] fun ay aa=> ?_))));have hgr:w.grownBy ay (some H.g):=Aa hgr aa.grown (fun _ e=>by cases e);have ab:=AbN ay;have a9:=AR (bl hb) ak;have hb:=eb u hb;have ba:=AR (bl hb) x;have hb:=eb l hb;have bb:=AR (bl hb) m;have hZ3:=(hZ2.trans z).trans aa;have hb:=eb hZ3 hb;have hZ4:=(ah.trans z).trans aa;have c:=eb hZ4 c;have k:=eb hZ4 k;have hZ5:=z.trans aa;have hE:=hE.trans hZ5;refine Fm ab ?_;refine yf (fun _ ⟨hZ,_⟩=>Y6 G8 rfl rfl (Ac (eb hZ k) rfl) zz) (yp (Zw G8 (Zx (hrb.keep hE) rfl) zz) (yf (fun _ ⟨hZ,_⟩=>Y6 UO rfl rfl (Ac (eb hZ c) rfl) zz) (yp (AbO rfl zz) (yp (AbM K0 rfl zz) (yf (fun _ ⟨hZ,_⟩=>Y6 Nw rfl rfl (Ac (eb hZ hb) rfl) zz) (ys (Y6 UO rfl rfl (Ac c rfl) zz) (yE (Y9 N5 rfl ((PL w0.heap.size _ H D (hS.keep hE) hL.used).mono ?_)))))))));rintro e bc ⟨rfl,ac⟩;refine⟨_,rfl,?_⟩;have hgr:w.grownBy bc (some H.g):=Aa hgr ac.grown (fun _ e=>by cases e);have ab:=ab.trans ac;refine⟨ab,?_⟩;have hb:=eb ac hb;have c:=eb ac c;refine ys (Ze (xv:= .int .i64 (((D.quota:Nat):Int))) (yv:= .int .i64 (((usedD D:Nat):Int))) rfl rfl rfl (NH _ (((D.quota:Nat):Int)) (((usedD D:Nat):Int)) (by omega)) zz) (ys (Y7 rfl rfl (VU _ .i64 ((b.length:Nat):Int) (((((D.quota:Nat):Int))-(((usedD D:Nat):Int))):Int)) zz) (kT (by omega) (cT rfl (gS (Y6 UO rfl rfl (Ac c rfl) (gS (AbO rfl (gS (AbM K4 rfl (gS (Y6 Nw rfl rfl (Ac hb rfl) (gS (Ze (xv:=NI D.refused) (yv:=NI 1) rfl rfl rfl (AD _ _ _ (by have:=hL.refused;omega)) (gS (AbO rfl (gS (AbM K4 rfl (gS (Za (i:=4) (v:=NI ((D.refused)+(1))) rfl rfl hb (AcP rfl) DB rfl rfl fun bd az be bx=> ?_)))))))))))))))))));have hgr:w.grownBy bd (some H.g):=Aa hgr be (fun _ e=> .inl e);clear hE;clear ax;clear hb;have hb:=az;clear az;have bz:=bl hb;refine AE rfl (vr (NI 8) rfl) ?_;exact⟨H,by rw[hV],by rw[hV];exact ag.setBlkT hgr hb⟩
 have hV:BV D s b=Dx D (fun d=>Bg d s b):=by unfold Dx;exact(if_neg y).trans (if_neg hq)
 have aq:=AR (bl c) x;have c:=eb l c;have ar:=AR (bl c) m;have c:=eb j c;have au:=AR (bl f) m;have f:=eb j f;refine gS (Y6 UO rfl rfl (Ac c rfl) (gS (Y6 EK rfl rfl (Ac f rfl) (gS (ZW (a:=s) (enc:=FO) (vr (St (s)) rfl) rfl (fun w=>IV _ w) fun bf bg bh ai=> ?_)))));have hgr:w.grownBy bg (some H.g):=Aa hgr ai.grown (fun _ e=>by cases e);have hZ6:=j.trans ai;have hE:=hE.trans hZ6;refine gS (Zb J3 rfl rfl ((Fp w0.heap.size _ H D (hS.keep hE) bf [s] bh (by simp)).mono ?_));rintro e bi ⟨rfl,ad⟩;refine⟨_,rfl,?_⟩;have hgr:w.grownBy bi (some H.g):=Aa hgr ad.grown (fun _ e=>by cases e);refine gS (Y7 (a:=(readyL D [s]:Nat)) (b:=(0:Nat)) rfl rfl (AX _ _ _ _) (kF (by rw[Gz];omega) (cF rfl (Fg [0,1,2,3,4,5,6,7,8,9] [7] [1,3,4] [0,2,5] fun a0 ae=> ?_))));have hgr:w.grownBy a0 (some H.g):=Aa hgr ae.grown (fun _ e=>by cases e);have af:=AbN a0;have a9:=AR (bl hb) ak;have hb:=eb u hb;have ba:=AR (bl hb) x;have hb:=eb l hb;have bb:=AR (bl hb) m;have hZ7:=(hZ6.trans ad).trans ae;have hb:=eb hZ7 hb;have hZ8:=(ai.trans ad).trans ae;have c:=eb hZ8 c;have k:=eb hZ8 k;have hZ9:=ad.trans ae;have hE:=hE.trans hZ9;refine Fm af ?_;refine yf (fun _ ⟨hZ,_⟩=>Y6 G8 rfl rfl (Ac (eb hZ k) rfl) zz) (yp (Zw G8 (Zx (hrb.keep hE) rfl) zz) (yf (fun _ ⟨hZ,_⟩=>Y6 UO rfl rfl (Ac (eb hZ c) rfl) zz) (yp (AbO rfl zz) (yp (AbM K0 rfl zz) (yf (fun _ ⟨hZ,_⟩=>Y6 Nw rfl rfl (Ac (eb hZ hb) rfl) zz) (ys (Y6 UO rfl rfl (Ac c rfl) zz) (yE (Y9 N5 rfl ((PL w0.heap.size _ H D (hS.keep hE) hL.used).mono ?_)))))))));rintro e bj ⟨rfl,n⟩;refine⟨_,rfl,?_⟩;have hgr:w.grownBy bj (some H.g):=Aa hgr n.grown (fun _ e=>by cases e);have af:=af.trans n;refine⟨af,?_⟩;have c:=eb n c;refine ys (Ze (xv:= .int .i64 (((D.quota:Nat):Int))) (yv:= .int .i64 (((usedD D:Nat):Int))) rfl rfl rfl (NH _ (((D.quota:Nat):Int)) (((usedD D:Nat):Int)) (by omega)) zz) (ys (Y7 rfl rfl (VU _ .i64 ((b.length:Nat):Int) (((((D.quota:Nat):Int))-(((usedD D:Nat):Int))):Int)) zz) (kF (by omega) (cF rfl (gS (Y6 UO rfl rfl (Ac c rfl) (gS (Zu (vs:= #[PQ o 0,PQ p 0,PQ t 0]) (by simp only[AcT,AcX,Ac2];exact congrArg Adf (P4 (vr (PQ o 0) rfl) (vr (PQ p 0) rfl) (vr (PQ t 0) rfl))) ?_)))))));have hE:=hE.trans n;have hEc:=hE;have hSc:=(hS.keep hE);have hTc:=Acg ag hEc;have hZ10:=hZ7.trans n;have h:=h.trans hZ10;have hE0c:=h;have f:=eb (hZ8.trans n) f;have k:=eb n k;refine gS (Zb H7 rfl rfl ((KZ w0 _ hE0c H D hSc hdn hL.arm (.func (.func 93) #[] #[PQ o 0,PQ p 0,PQ t 0]) 93 #[PQ o 0,PQ p 0,PQ t 0] (fun _ _=>by kernel_rfl) rfl (fun d=>Bg d s b) (WK w0 _ hE0c H D hSc o p t s b vb c f k (hrb.keep hE) (hoff.imp id fun q i hi r=>q i hi r) hs hbl hL.files hL.acts)).mono ?_));rintro e b0 ⟨H3,rfl,hT2⟩;refine⟨_,rfl,?_⟩;have hT3:=hTc.trans hT2;refine AE rfl (vr (NI ((Dx D (fun d=>Bg d s b)).2)) rfl) ?_;exact⟨H3,by rw[hV],by rw[hV];exact hT3⟩
theorem WL(w0 w:AcE)(c:Ext w0 w)(H:Dk)(D:Al)(hS:DkS w0.heap.size w H D)(s:Aib)(hL:EB D):
  Calls AcF 46 #[PQ H.g 0,St s] w fun e w' =>∃H',e = .returned (NI (Ch D s).2)/\DkT w0.heap.size w H D w' H' (Ch D s).1:=by
 have hb:=hS.blk;have hgl:=(bl hb);have hgl0:=hS.lo.1;have hsz0:=c.size;have y:=hS;have hgr:=Adb w (some H.g);refine gG (args:= [PQ H.g 0,St (s)]) Tryz.func46 rfl 19 rfl rfl ?_;have hE:=AbN w;refine gS (ZM (vr (PQ H.g 0) rfl) rfl fun f z ar aa n au=> ?_);have j:=AbN w;have av:=hE.size;have aw:=c.size;have hgr:w.grownBy z (some H.g):=Aa hgr n.grown (fun _ e=>by cases e);have l:=aa;clear aa;have ax:f<z.heap.size:=by omega
 rcases hV0:DK D [] s with ce | k
 ·have hV:Ch D s=(D,ce):=by unfold Ch;rw[Ht,hV0]
  have hce:=Jk hV0;have hE:=hE.trans n;refine gS (Y6 UO rfl rfl (Ac l rfl) (gS (Zi Fq rfl rfl rfl (((show Calls _ _ _ _ (fun e w2=>e = .returned (.tuple #[.pointer none,NI ce])/\Ext _ w2)from by have h:=FP w0.heap.size _ H D (hS.keep hE) s ((AcU none 0 0)) [] (.inl ⟨rfl,rfl⟩) (by simp);rw[hV0]at h;exact h)).mono ?_))));rintro e ak ⟨rfl,x⟩;refine⟨_,rfl,?_⟩;have hgr:w.grownBy ak (some H.g):=Aa hgr x.grown (fun _ e=>by cases e);refine gS (AbP (vs:= [.pointer none,NI ce]) rfl rfl (gS (AbP (vs:= [.pointer none,NI ce]) rfl rfl (gS (AbV S8 fun al ab ay ac ad az=> ?_)))));have hE:=hE.trans x;have hZ1:=n.trans x;have c:=c.trans hZ1;have j:=j.trans hZ1;have a0:=hE.size;have a1:=c.size;have am:=j.size;have hgr:w.grownBy ab (some H.g):=Aa hgr ad.grown (fun _ e=>by cases e);have q:=ac;clear ac;have a2:al<ab.heap.size:=by omega
  refine gS (Za (i:=0) (v:= .pointer none) rfl rfl q (AcP rfl) QZ rfl rfl fun an ae af a3=> ?_);have hgr:w.grownBy an (some H.g):=Aa hgr af (fun _ e=> .inr (by cases e;omega));clear q;have q:=ae;clear ae;have a4:=bl q;refine gS (Y7 (a:=(ce:Nat)) (b:=(0:Nat)) rfl rfl (AX _ _ _ _) (kT (by omega) (cT rfl (AE rfl (vr (NI ce) rfl) ?_))));have hE:=hE.trans ad;have hE:=Ad hE af (AcG am (by omega));exact⟨H,by rw[hV],by rw[hV];exact Acg y hE⟩
 have hV:Ch D s=Dx D (fun d=> { d with files:=d.files.set k ((Aq d k).1,(Aq d k).1.length),kept:=d.now,acts:= [] }):=by unfold Ch;rw[Ht,hV0]
 obtain⟨hdn,hlk,hms⟩:=Jl hV0;have hkl:=hS.ok.now.look hlk;have hE:=hE.trans n;refine gS (Y6 UO rfl rfl (Ac l rfl) (gS (Zi Fq rfl rfl rfl (((show Calls _ _ _ _ (fun e w2=>e = .returned (.tuple #[.pointer (some ⟨(H.F k),0,none⟩),NI 0])/\Ext _ w2)from by have h:=FP w0.heap.size _ H D (hS.keep hE) s ((AcU none 0 0)) [] (.inl ⟨rfl,rfl⟩) (by simp);rw[hV0]at h;exact h)).mono ?_))));rintro e ag ⟨rfl,r⟩;refine⟨_,rfl,?_⟩;have hgr:w.grownBy ag (some H.g):=Aa hgr r.grown (fun _ e=>by cases e);refine gS (AbP (vs:= [.pointer (some ⟨(H.F k),0,none⟩),NI 0]) rfl rfl (gS (AbP (vs:= [.pointer (some ⟨(H.F k),0,none⟩),NI 0]) rfl rfl (gS (AbV S8 fun m ah a5 ai t a6=> ?_)))));have o:=AbN ag;have hE:=hE.trans r;have hZ2:=n.trans r;have c:=c.trans hZ2;have j:=j.trans hZ2;have a7:=hE.size;have ao:=c.size;have ap:=j.size;have hgr:w.grownBy ah (some H.g):=Aa hgr t.grown (fun _ e=>by cases e);have p:=ai;clear ai;have a8:m<ah.heap.size:=by omega
 refine gS (Za (i:=0) (v:= .pointer (some ⟨(H.F k),0,none⟩)) rfl rfl p (AcP rfl) QZ rfl rfl fun aq aj u a9=> ?_);have hgr:w.grownBy aq (some H.g):=Aa hgr u (fun _ e=> .inr (by cases e;omega));clear p;have p:=aj;clear aj;have ba:=bl p;have o:=o.trans t;have o:=Ad o u (AcG (AcI _) (by omega));have l:=eb (r.trans o) l;refine gS (Y7 (a:=(0:Nat)) (b:=(0:Nat)) rfl rfl (AX _ _ _ _) (kF (by decide) (cF rfl (gS (Y6 UO rfl rfl (Ac l rfl) (gS (Zu (vs:= #[PQ m 0,PQ f 0]) (by simp only[AcT,AcX,Ac2];exact congrArg Adf (B6 (vr (PQ m 0) rfl) (vr (PQ f 0) rfl))) ?_)))))));have hE:=hE.trans t;have hE:=Ad hE u (AcG ap (by omega));have hEc:=hE;have hSc:=(hS.keep hE);have hTc:=Acg y hEc;have c:=c.trans t;have c:=Ad c u (AcG ao (by omega));have hE0c:=c;refine gS (Zb H7 rfl rfl ((KZ w0 _ hE0c H D hSc hdn hL.arm (.func (.func 96) #[] #[PQ m 0,PQ f 0]) 96 #[PQ m 0,PQ f 0] (fun _ _=>by kernel_rfl) rfl (fun d=> { d with files:=d.files.set k ((Aq d k).1,(Aq d k).1.length),kept:=d.now,acts:= [] }) (UW w0 _ hE0c H D hSc m f k p l hkl.1)).mono ?_));rintro e bb ⟨H3,rfl,hT2⟩;refine⟨_,rfl,?_⟩;have hT3:=hTc.trans hT2;refine AE rfl (vr (NI ((Dx D (fun d=> { d with files:=d.files.set k ((Aq d k).1,(Aq d k).1.length),kept:=d.now,acts:= [] })).2)) rfl) ?_;exact⟨H3,by rw[hV],by rw[hV];exact hT3⟩
theorem WM(w0 w:AcE)(c:Ext w0 w)(H:Dk)(D:Al)(hS:DkS w0.heap.size w H D)(s t:Aib)(hL:EB D):
  Calls AcF 81 #[PQ H.g 0,St s,St t] w fun e w' =>∃H',e = .returned (NI (Dh D s t).2)/\DkT w0.heap.size w H D w' H' (Dh D s t).1:=by
 have hb:=hS.blk;have hgl:=(bl hb);have hgl0:=hS.lo.1;have hsz0:=c.size;have ah:=hS;have hgr:=Adb w (some H.g);refine gG (args:= [PQ H.g 0,St (s),St (t)]) Tryz.func81 rfl 23 rfl rfl ?_;have hE:=AbN w;refine gS (ZM (vr (PQ H.g 0) rfl) rfl fun o w3 bf aj ab bg=> ?_);have j:=AbN w;have bh:=hE.size;have bi:=c.size;have hgr:w.grownBy w3 (some H.g):=Aa hgr ab.grown (fun _ e=>by cases e);have f:=aj;clear aj;have bj:o<w3.heap.size:=by omega
 refine gS (ZM (vr (St (s)) rfl) rfl fun p ak al am q bk=> ?_);have hE:=hE.trans ab;have c:=c.trans ab;have j:=j.trans ab;have bm:=hE.size;have bn:=c.size;have bo:=j.size;have hgr:w.grownBy ak (some H.g):=Aa hgr q.grown (fun _ e=>by cases e);have l:=am;clear am;have bp:p<ak.heap.size:=by omega
 refine gS (ZM (vr (St (t)) rfl) rfl fun r an ac ao m bq=> ?_);have hE:=hE.trans q;have c:=c.trans q;have j:=j.trans q;have br:=hE.size;have bs:=c.size;have bt:=j.size;have hgr:w.grownBy an (some H.g):=Aa hgr m.grown (fun _ e=>by cases e);have y:=ao;clear ao;have bu:r<an.heap.size:=by omega
 rcases hV0:DK D [t] s with ce | k
 ·have hV:Dh D s t=(D,ce):=by unfold Dh;rw[S9,hV0]
  have hce:=Jk hV0;have a1:=AR (bl f) al;have f:=eb q f;have a2:=AR (bl f) ac;have f:=eb m f;have a3:=AR (bl l) ac;have l:=eb m l;refine gS (Y6 UO rfl rfl (Ac f rfl) (gS (Y6 EK rfl rfl (Ac l rfl) (gS (Y6 EK rfl rfl (Ac y rfl) (gS (AaO (a:=t) (enc:=FO) (vr (St (t)) rfl) rfl (fun w=>IV _ w) fun a4 a5 hF57 ap=> ?_)))))));have hgr:w.grownBy a5 (some H.g):=Aa hgr ap.grown (fun _ e=>by cases e);have hFl:=hF57;clear hF57;have hZ1:=m.trans ap;have hE:=hE.trans hZ1;refine gS (Zi Fq rfl rfl rfl (((show Calls _ _ _ _ (fun e w2=>e = .returned (.tuple #[.pointer none,NI ce])/\Ext _ w2)from by have h:=FP w0.heap.size _ H D (hS.keep hE) s (.slice (some ⟨a4,0,none⟩) 1 1) [t] hFl (by simp);rw[hV0]at h;exact h)).mono ?_));rintro e a6 ⟨rfl,ag⟩;refine⟨_,rfl,?_⟩;have hgr:w.grownBy a6 (some H.g):=Aa hgr ag.grown (fun _ e=>by cases e);refine gS (AbP (vs:= [.pointer none,NI ce]) rfl rfl (gS (AbP (vs:= [.pointer none,NI ce]) rfl rfl (gS (AbV S8 fun a7 aq bv ar au bw=> ?_)))));have hE:=hE.trans ag;have hZ2:=hZ1.trans ag;have c:=c.trans hZ2;have j:=j.trans hZ2;have bx:=hE.size;have bz:=c.size;have a8:=j.size;have hgr:w.grownBy aq (some H.g):=Aa hgr au.grown (fun _ e=>by cases e);have ad:=ar;clear ar;have b0:a7<aq.heap.size:=by omega
  refine gS (Za (i:=0) (v:= .pointer none) rfl rfl ad (AcP rfl) QZ rfl rfl fun a9 av aw b1=> ?_);have hgr:w.grownBy a9 (some H.g):=Aa hgr aw (fun _ e=> .inr (by cases e;omega));clear ad;have ad:=av;clear av;have b2:=bl ad;refine gS (Y7 (a:=(ce:Nat)) (b:=(0:Nat)) rfl rfl (AX _ _ _ _) (kT (by omega) (cT rfl (AE rfl (vr (NI ce) rfl) ?_))));have hE:=hE.trans au;have hE:=Ad hE aw (AcG a8 (by omega));exact⟨H,by rw[hV],by rw[hV];exact Acg ah hE⟩
 have hV:Dh D s t=Dx D (fun d=>turnedD d ⟨s,t,k⟩):=by unfold Dh;rw[S9,hV0]
 obtain⟨hdn,hlk,hms⟩:=Jl hV0;have hkl:=hS.ok.now.look hlk;have a1:=AR (bl f) al;have f:=eb q f;have a2:=AR (bl f) ac;have f:=eb m f;have a3:=AR (bl l) ac;have l:=eb m l;refine gS (Y6 UO rfl rfl (Ac f rfl) (gS (Y6 EK rfl rfl (Ac l rfl) (gS (Y6 EK rfl rfl (Ac y rfl) (gS (AaO (a:=t) (enc:=FO) (vr (St (t)) rfl) rfl (fun w=>IV _ w) fun ba bb hF97 z=> ?_)))))));have hgr:w.grownBy bb (some H.g):=Aa hgr z.grown (fun _ e=>by cases e);have hFl:=hF97;clear hF97;have hZ3:=m.trans z;have hE:=hE.trans hZ3;refine gS (Zi Fq rfl rfl rfl (((show Calls _ _ _ _ (fun e w2=>e = .returned (.tuple #[.pointer (some ⟨(H.F k),0,none⟩),NI 0])/\Ext _ w2)from by have h:=FP w0.heap.size _ H D (hS.keep hE) s (.slice (some ⟨ba,0,none⟩) 1 1) [t] hFl (by simp);rw[hV0]at h;exact h)).mono ?_));rintro e ax ⟨rfl,u⟩;refine⟨_,rfl,?_⟩;have hgr:w.grownBy ax (some H.g):=Aa hgr u.grown (fun _ e=>by cases e);refine gS (AbP (vs:= [.pointer (some ⟨(H.F k),0,none⟩),NI 0]) rfl rfl (gS (AbP (vs:= [.pointer (some ⟨(H.F k),0,none⟩),NI 0]) rfl rfl (gS (AbV S8 fun x ay b3 az ae b4=> ?_)))));have n:=AbN ax;have hE:=hE.trans u;have hZ4:=hZ3.trans u;have c:=c.trans hZ4;have j:=j.trans hZ4;have b5:=hE.size;have bc:=c.size;have bd:=j.size;have hgr:w.grownBy ay (some H.g):=Aa hgr ae.grown (fun _ e=>by cases e);have aa:=az;clear az;have b6:x<ay.heap.size:=by omega
 refine gS (Za (i:=0) (v:= .pointer (some ⟨(H.F k),0,none⟩)) rfl rfl aa (AcP rfl) QZ rfl rfl fun be a0 af b7=> ?_);have hgr:w.grownBy be (some H.g):=Aa hgr af (fun _ e=> .inr (by cases e;omega));clear aa;have aa:=a0;clear a0;have b8:=bl aa;have n:=n.trans ae;have n:=Ad n af (AcG (AcI _) (by omega));have f:=eb ((z.trans u).trans n) f;refine gS (Y7 (a:=(0:Nat)) (b:=(0:Nat)) rfl rfl (AX _ _ _ _) (kF (by decide) (cF rfl (gS (Y6 UO rfl rfl (Ac f rfl) (gS (Zu (vs:= #[PQ o 0,PQ p 0,PQ x 0,PQ r 0]) (by simp only[AcT,AcX,Ac2];exact congrArg Adf (Yd (vr (PQ o 0) rfl) (vr (PQ p 0) rfl) (vr (PQ x 0) rfl) (vr (PQ r 0) rfl))) ?_)))))));have hE:=hE.trans ae;have hE:=Ad hE af (AcG bd (by omega));have hEc:=hE;have hSc:=(hS.keep hE);have hTc:=Acg ah hEc;have c:=c.trans ae;have c:=Ad c af (AcG bc (by omega));have hE0c:=c;have l:=eb ((z.trans u).trans n) l;have y:=eb ((z.trans u).trans n) y;refine gS (Zb H7 rfl rfl ((KZ w0 _ hE0c H D hSc hdn hL.arm (.func (.func 126) #[] #[PQ o 0,PQ p 0,PQ x 0,PQ r 0]) 126 #[PQ o 0,PQ p 0,PQ x 0,PQ r 0] (fun _ _=>by kernel_rfl) rfl (fun d=>turnedD d ⟨s,t,k⟩) (UX w0 _ hE0c H D hSc o p x r k s t f l aa y hkl.1 hkl.2 (hms t (by simp)) hL.acts)).mono ?_));rintro e b9 ⟨H3,rfl,hT2⟩;refine⟨_,rfl,?_⟩;have hT3:=hTc.trans hT2;refine AE rfl (vr (NI ((Dx D (fun d=>turnedD d ⟨s,t,k⟩)).2)) rfl) ?_;exact⟨H3,by rw[hV],by rw[hV];exact hT3⟩
theorem WN(w0 w:AcE)(f:Ext w0 w)(H:Dk)(D:Al)(hS:DkS w0.heap.size w H D)(s:Aib)(hL:EB D):
  Calls AcF 72 #[PQ H.g 0,St s] w fun e w' =>∃H',e = .returned (NI (BF D s).2)/\DkT w0.heap.size w H D w' H' (BF D s).1:=by
 have hb:=hS.blk;have hgl:=(bl hb);have hgl0:=hS.lo.1;have hsz0:=f.size;have p:=hS;have hgr:=Adb w (some H.g);refine gG (args:= [PQ H.g 0,St (s)]) Tryz.func72 rfl 19 rfl rfl ?_;have hE:=AbN w;refine gS (ZM (vr (PQ H.g 0) rfl) rfl fun i q ab r o ac=> ?_);have ad:=hE.size;have ae:=f.size;have hgr:w.grownBy q (some H.g):=Aa hgr o.grown (fun _ e=>by cases e);have c:=r;clear r;have af:i<q.heap.size:=by omega
 refine gS (ZM (vr (St (s)) rfl) rfl fun j t u v l ag=> ?_);have hE:=hE.trans o;have f:=f.trans o;have ah:=hE.size;have ai:=f.size;have hgr:w.grownBy t (some H.g):=Aa hgr l.grown (fun _ e=>by cases e);have m:=v;clear v;have aj:j<t.heap.size:=by omega
 rcases hV0:DK D [] s with ce | k
 ·have hV:BF D s=(D,ce):=by unfold BF;rw[Ht,hV0]
  have hce:=Jk hV0;have y:=AR (bl c) u;have c:=eb l c;have hE:=hE.trans l;refine gS (Y6 UO rfl rfl (Ac c rfl) (gS (Y6 EK rfl rfl (Ac m rfl) (gS (Zi Fq rfl rfl rfl (((show Calls _ _ _ _ (fun e w2=>e = .returned (.tuple #[.pointer none,NI ce])/\Ext _ w2)from by have h:=FP w0.heap.size _ H D (hS.keep hE) s ((AcU none 0 0)) [] (.inl ⟨rfl,rfl⟩) (by simp);rw[hV0]at h;exact h)).mono ?_))))));rintro e z ⟨rfl,x⟩;refine⟨_,rfl,?_⟩;have hgr:w.grownBy z (some H.g):=Aa hgr x.grown (fun _ e=>by cases e);refine gS (AbP (vs:= [.pointer none,NI ce]) rfl rfl (gS (AbP (vs:= [.pointer none,NI ce]) rfl rfl (gS (Y7 (a:=(ce:Nat)) (b:=(0:Nat)) rfl rfl (AX _ _ _ _) (kT (by omega) (cT rfl (AE rfl (vr (NI ce) rfl) ?_))))))));have hE:=hE.trans x;exact⟨H,by rw[hV],by rw[hV];exact Acg p hE⟩
 have hV:BF D s=Dx D (fun d=>turnedD d ⟨s,[],k⟩):=by unfold BF;rw[Ht,hV0]
 obtain⟨hdn,hlk,hms⟩:=Jl hV0;have hkl:=hS.ok.now.look hlk;have y:=AR (bl c) u;have c:=eb l c;have hE:=hE.trans l;refine gS (Y6 UO rfl rfl (Ac c rfl) (gS (Y6 EK rfl rfl (Ac m rfl) (gS (Zi Fq rfl rfl rfl (((show Calls _ _ _ _ (fun e w2=>e = .returned (.tuple #[.pointer (some ⟨(H.F k),0,none⟩),NI 0])/\Ext _ w2)from by have h:=FP w0.heap.size _ H D (hS.keep hE) s ((AcU none 0 0)) [] (.inl ⟨rfl,rfl⟩) (by simp);rw[hV0]at h;exact h)).mono ?_))))));rintro e aa ⟨rfl,n⟩;refine⟨_,rfl,?_⟩;have hgr:w.grownBy aa (some H.g):=Aa hgr n.grown (fun _ e=>by cases e);have c:=eb n c;refine gS (AbP (vs:= [.pointer (some ⟨(H.F k),0,none⟩),NI 0]) rfl rfl (gS (AbP (vs:= [.pointer (some ⟨(H.F k),0,none⟩),NI 0]) rfl rfl (gS (Y7 (a:=(0:Nat)) (b:=(0:Nat)) rfl rfl (AX _ _ _ _) (kF (by decide) (cF rfl (gS (Y6 UO rfl rfl (Ac c rfl) (gS (Zu (vs:= #[PQ i 0,PQ j 0]) (by simp only[AcT,AcX,Ac2];exact congrArg Adf (B6 (vr (PQ i 0) rfl) (vr (PQ j 0) rfl))) ?_)))))))))));have hE:=hE.trans n;have hEc:=hE;have hSc:=(hS.keep hE);have hTc:=Acg p hEc;have hZ1:=l.trans n;have f:=f.trans hZ1;have hE0c:=f;have m:=eb n m;refine gS (Zb H7 rfl rfl ((KZ w0 _ hE0c H D hSc hdn hL.arm (.func (.func 119) #[] #[PQ i 0,PQ j 0]) 119 #[PQ i 0,PQ j 0] (fun _ _=>by kernel_rfl) rfl (fun d=>turnedD d ⟨s,[],k⟩) (UY w0 _ hE0c H D hSc i j k s c m hkl.1 hkl.2 hL.acts)).mono ?_));rintro e ak ⟨H3,rfl,hT2⟩;refine⟨_,rfl,?_⟩;have hT3:=hTc.trans hT2;refine AE rfl (vr (NI ((Dx D (fun d=>turnedD d ⟨s,[],k⟩)).2)) rfl) ?_;exact⟨H3,by rw[hV],by rw[hV];exact hT3⟩
theorem Tb(w:AcE):(Adc 43 0 #[]).run AcF w = .ok (.slice (some ⟨w.heap.size,0,none⟩) 0 0) (w.alloc (.cells #[] 5)):=by kernel_rfl
theorem UZ:Plain AcF 54:=fun _ _=>by kernel_rfl
theorem XS(w:AcE):
  Calls AcF 54 #[(.slice none 0 0)] w fun e w' =>∃v',e = .returned v' /\NewB 5 w w' v' []:=by
 refine gG (args:= [(.slice none 0 0)]) Tryz.func54 rfl 8 rfl rfl ?_;have hE:=AbN w;refine gS (ZS G8 rfl (cT rfl (AE rfl (vr (AcU none 0 0) rfl) ?_)));exact⟨_,rfl,⟨Aej _ _ _ 1,hE.grown⟩⟩
theorem XT(w:AcE)(a:Addr)(c:Nat)(l:Aib)(hr:RB w (.slice (some a) l.length c) l)(hl:l.length<1099511627776):
  Calls AcF 54 #[(.slice (some a) l.length c)] w fun e w' =>∃v',e = .returned v' /\NewB 5 w w' v' l:=by
 refine gG (args:= [(.slice (some a) l.length c)]) Tryz.func54 rfl 8 rfl rfl ?_;have hE:=AbN w;refine gS (ZS G8 rfl (cF rfl (gS (AbF Tb fun g j h=> ?_))));have b:=h.own;have hE:=hE.trans h.ext;refine gS (ZR _ _ w.heap.size (.int .u8 0) G8 P5 rfl G8 (([]:Aib)) (l) (G7 b (vr g rfl)) (Zx (hr.keep hE) (vr (.slice (some a) l.length c) rfl)) (by simp only[List.length_nil];omega) hE.size fun i k m f=> ?_);have f:Grew j k g i:=f;have hE:=Br hE f b (AcI _);clear b;refine AE rfl (vr i rfl) ?_;exact⟨_,rfl,⟨(show AhH _ _ _ _ _ _ _ from by simpa using m),hE.grown⟩⟩
theorem Mp(w:AcE)(v:AcD)(l:Aib)(h:RB w v l)(hl:l.length<1099511627776):
  Calls AcF 54 #[v] w fun e w' =>∃v',e = .returned v' /\NewB 5 w w' v' l:=by
 obtain⟨h1,ao,cap,rfl,h2,h3,h4,h5⟩:=id h;cases ao with
 | none=>
  have hl:=h4 rfl;have:l= []:=AdB hl.1;subst this;rw[show cap=0 from hl.2];exact XS w
 | some a=>exact XT w a cap l h hl
theorem WO(w0 w:AcE)(H:Dk)(D:Al)(hS:DkS w0.heap.size w H D)(s:Aib)(hL:EB D):
  Calls AcF 30 #[PQ H.g 0,St s] w fun e w' =>∃v,e = .returned (.tuple #[v,NI (Bk D s).2])/\w'.ownsRow w.heap.size 5 1 v (Bk D s).1.length (Lib.byteCells (Bk D s).1)/\Ext w w' :=by
 have hb:=hS.blk;have hgl:=(bl hb);have c:=hS;refine gG (args:= [PQ H.g 0,St (s)]) Tryz.func30 rfl 22 rfl rfl ?_;have hE:=AbN w;rcases hV0:DK D [] s with ce | k
 ·have hV:Bk D s=([],ce):=by unfold Bk;rw[Ht,hV0]
  have hce:=Jk hV0;refine gS (Zi Fq rfl rfl rfl (((show Calls _ _ _ _ (fun e w2=>e = .returned (.tuple #[.pointer none,NI ce])/\Ext _ w2)from by have h:=FP w0.heap.size _ H D (hS.keep hE) s ((AcU none 0 0)) [] (.inl ⟨rfl,rfl⟩) (by simp);rw[hV0]at h;exact h)).mono ?_));rintro e n ⟨rfl,j⟩;refine⟨_,rfl,?_⟩;refine gS (AbP (vs:= [.pointer none,NI ce]) rfl rfl (gS (AbP (vs:= [.pointer none,NI ce]) rfl rfl (gS (Y7 (a:=(ce:Nat)) (b:=(0:Nat)) rfl rfl (AX _ _ _ _) (kT (by omega) (cT rfl (DX rfl (vr (AcU none 0 0) rfl) (vr (NI ce) rfl) ?_))))))));have hE:=hE.trans j;exact⟨_,by rw[hV],by rw[hV];exact Aej _ _ _ 1,hE⟩
 have hV:Bk D s=((Aq D k).1,0):=by unfold Bk;rw[Ht,hV0]
 obtain⟨hdn,hlk,hms⟩:=Jl hV0;have hkl:=(c.ok.now.look hlk).1;have hfa:=c.files.at_ k hkl;have hfb:=hfa.blk;have hfr:RB w (H.V k) (D.files.getD k ([],0)).1:=Zm hfa.row;have hlb:=hL.files _ (DC (d:=([],0)) hkl);refine gS (Zi Fq rfl rfl rfl (((show Calls _ _ _ _ (fun e w2=>e = .returned (.tuple #[.pointer (some ⟨(H.F k),0,none⟩),NI 0])/\Ext _ w2)from by have h:=FP w0.heap.size _ H D (hS.keep hE) s ((AcU none 0 0)) [] (.inl ⟨rfl,rfl⟩) (by simp);rw[hV0]at h;exact h)).mono ?_));rintro e o ⟨rfl,f⟩;refine⟨_,rfl,?_⟩;have hE:=hE.trans f;refine gS (AbP (vs:= [.pointer (some ⟨(H.F k),0,none⟩),NI 0]) rfl rfl (gS (AbP (vs:= [.pointer (some ⟨(H.F k),0,none⟩),NI 0]) rfl rfl (gS (Y7 (a:=(0:Nat)) (b:=(0:Nat)) rfl rfl (AX _ _ _ _) (kF (by decide) (cF rfl (gS (AbO rfl (gS (AbM O8 rfl (gS (Y6 G8 rfl rfl (Ac (eb hE hfb) rfl) (gS (Y9 UZ rfl ((Mp _ (H.V k) ((D.files.getD k ([],0)).1) (hfr.keep hE) (by omega)).mono ?_))))))))))))))));rintro e p ⟨l,rfl,i⟩;refine⟨_,rfl,?_⟩;have q:=hE.size;have hb:=eb f hb;have m:=i.own;refine DX rfl (vr l rfl) (vr (NI 0) rfl) ?_;have hE:=hE.trans i.ext;exact⟨_,by rw[hV],by rw[hV];exact AI m (by omega),hE⟩
theorem Pb(base:Nat)(w:AcE)(H:Dk)(D:Al)(hS:DkS base w H D):
  Calls AcF 12 #[PQ H.g 0] w fun e w' =>e = .returned (NI D.refused)/\Ext w w' :=by
 have hb:=hS.blk;have hgl:=(bl hb);refine gG (args:= [PQ H.g 0]) Tryz.func12 rfl 9 rfl rfl ?_;have hE:=AbN w;refine gS (ZJ UO rfl (cF rfl (gS (AbO rfl (gS (AbM K4 rfl (gS (Y6 Nw rfl rfl (Ac hb rfl) (AE rfl (vr (NI D.refused) rfl) ?_)))))))));exact⟨rfl,hE⟩
theorem RG.kept{α:Type}{k:Nat}{enc:α->List AcD}{w w' :AcE}{v:AcD}{l:List α}(h:RG k enc w v l){row:Option Nat}(hg:w.grownBy w' row)(hv:v.ownBlock=none\/v.ownBlock≠row):RG k enc w' v l:=by
 refine⟨h.1,?_⟩;obtain⟨h1,ao,cap,rfl,h2,h3,h4,h5⟩:=h.2;refine⟨h1,ao,cap,rfl,h2,h3,h4,fun a ha j u hu=> ?_⟩;have hc:=h5 a ha j u hu;subst ha;have hlt:=AdP w _ hc;have hbl:(a.add j).block=a.block:=by unfold Addr.add;split <;> rfl
 have hne:(some a.block)≠row:=by
  rcases hv with hv | hv
  ·cases hv
  ·exact hv
 rw[hbl]at hlt;rw[World.cell?_of_block (w:=w) (by rw[hbl];exact hg.block a.block hlt hne)];exact hc
theorem Tc(t:AcK)(a b:Int)(hb:b≠0):Ado .rem t (.int .i64 a) (.int .i64 b)=pure (.int .i64 (Afw a b)):=by
 unfold Ado
 simp only[ne_eq,not_true_eq_false,if_false,Op.intDiv];rw[if_neg hb]
theorem PM(x:Int)(m:Nat): -(m:Int)<=Afw x ((m+1:Nat):Int)/\Afw x ((m+1:Nat):Int)<=m:=by
 have h1:=Int.tmod_lt_of_pos x (show(0:Int)<((m+1:Nat):Int) by omega);have h2:=Int.lt_tmod_of_pos x (show(0:Int)<((m+1:Nat):Int) by omega);omega
theorem WP(t:AcK)(x:Int)(m:Nat)(y:Int)(hy:y=Afw x ((m+1:Nat):Int)+m+1):Ado .rem t (.int .i64 y) (NI (m+1))=pure (NI (Ae6 x ((m+1:Nat):Int)).toNat):=by
 have hb:=PM x m;have h:=Tc t y ((m+1:Nat):Int) (by omega);refine h.trans ?_;have a:Afw y ((m+1:Nat):Int)=Ae6 y ((m+1:Nat):Int):=Int.tmod_eq_emod_of_nonneg (by omega);have b:Ae6 y ((m+1:Nat):Int)=Ae6 x ((m+1:Nat):Int):=by
  have h3:Afw x ((m+1:Nat):Int)=x-((m+1:Nat):Int)*Int.tdiv x ((m+1:Nat):Int):=Int.tmod_def _ _;have h4:y=x+((m+1:Nat):Int)*(1-Int.tdiv x ((m+1:Nat):Int)):=by
   rw[hy,h3,Int.mul_sub,Int.mul_one];omega
  show y%_=x%_;rw[h4,Int.add_mul_emod_self_left]
 have h5:0<=Ae6 x ((m+1:Nat):Int):=Int.emod_nonneg x (show((m+1:Nat):Int)≠0 by omega);rw[a,b];show pure (AeY .i64 (Ae6 x _))=pure (AeY .i64 (((Ae6 x ((m+1:Nat):Int)).toNat:Nat):Int));rw[Int.toNat_of_nonneg h5]
def Dy(q:Nat):Al:=⟨q,[],[],[],[],0,0,false⟩
theorem WQ(q:Nat):DOk (Dy q):=⟨AcC _,AcC _,fun a h=>(by cases h),fun x h=>(by cases h)⟩
theorem Abh{P:AcY}{K:AcD->AcE->Prop}{ρ:Aj}{w:AcE}{d:Option Tmp}{t ty:AcK}{pos:String}{af:Array Edge}{gd:Option (Nat × Bool)}{i0 i1 i2:Nat}{x0 x1 x2:AcO}{a b c v:AcD}(h0:Ab ρ x0=a)(h1:Ab ρ x1=b)(h2:Ab ρ x2=c)(hr:∀w:AcE,(AdI t #[(i0,a),(i1,b),(i2,c)]).run P w = .ok v w)(hk:K v w):Yk P K ((execOp (Ab ρ) ⟨d, .build t #[(i0,x0),(i1,x1),(i2,x2)],ty,pos,af,gd⟩).run P w):=
 Yk.build (by simp[h0,h1,h2]) hr hk
theorem WR(q:Int)(a b:Nat)(w:AcE):(AdI 82 #[(0, .int .i64 q),(1, .map (some a)),(2, .map (some b))]).run AcF w = .ok (.agg #[.int .i64 q, .map (some a), .map (some b), .slice none 0 0,NI 0,NI 0, .bool false]) w:=by kernel_rfl
theorem Ee:Tryz.prog.underlying 42=some (.slice 3):=by kernel_rfl
theorem U0:∀w' :AcE,(sizeOf 3).run AcF w' = .ok 1 w' :=fun _=>by kernel_rfl
theorem Td:(Tryz.prog.info? 42).map (·.size)=some 1:=by kernel_rfl
theorem XU(w:AcE)(q:Nat)(hq:q<=1073741824):
  Calls AcF 9 #[NI q] w fun e w' =>∃H,e = .returned (PQ H.g 0)/\DkS w.heap.size w' H (Dy q)/\Ext w w' :=by
 refine gG (args:= [NI q]) Tryz.func9 rfl 14 rfl rfl ?_;have hE:=AbN w;refine gS (Y7 (a:=(q:Nat)) (b:=(0:Nat)) rfl rfl (Bf _ _ _ _) (kF (by omega) (gS (Y7 (a:=(q:Nat)) (b:=(1073741824:Nat)) rfl rfl (CQ _ _ _ _) (kF (by omega) (gS (Zo rfl rfl (cF rfl ?_))))))));have v:=hE.size;refine gS (Aab St (pF (fun _=>0)) Nm fun c p x hm8 r y=> ?_);have z:c<p.heap.size:=by omega
 have hE:=hE.trans r;have aa:=hE.size;refine gS (Aab St (pF (fun _=>0)) Nm fun f s ab hm16 m ac=> ?_);have ad:f<s.heap.size:=by omega
 refine gS (Abh rfl rfl rfl (fun w=>WR _ _ _ w) (gS (Ab3 (vr (.agg (IU q c f (.slice none 0 0) 0 0 false).toArray) rfl) fun h t n o l ae=> ?_)));have hE:=hE.trans m;have af:=hE.size;have hm8:=hm8.keep m;have ag:=AR hm8.lt n;have ah:=AR hm16.lt n;have u:=o;clear o;have ai:h<t.heap.size:=by omega
 refine AE rfl (vr (PQ h 0) rfl) ?_;have hE:=hE.trans l;have hm8:=hm8.keep l;have hm16:=hm16.keep l;exact⟨⟨h,c,f, .slice none 0 0,fun _=>0,fun _=> .slice none 0 0⟩,rfl,⟨u,hm8,hm16,by show c≠f;omega,⟨[],Aej _ _ _ 1,rfl,fun i hi=>absurd hi (AdN _)⟩,⟨fun k hk=>absurd hk (AdN _),fun i j hi=>absurd hi (AdN _),fun i j hi=>absurd hi (AdN _)⟩,WQ q,by show _<=h/\_<=c/\_<=f;omega⟩,hE⟩
theorem XV(w:AcE)(bf:Nat)(vf:AcD)(fs:List Int)(hbf:w.heap[bf]? =some (.cells ([vf]).toArray 42 (0,0)))(hrf:RG 1 Mk w vf fs)(m:Nat)(hm:m<4611686018427387904)(hf:fs.length=0):
  Calls AcF 50 #[NI m,PQ bf 0] w fun e w' =>e = .returned (NI 0)/\Ext w w' :=by
 have hbl:=(bl hbf);have hgr:=Adb w (some bf);refine gG (args:= [NI m,PQ bf 0]) Tryz.func50 rfl 23 rfl rfl ?_;have hE:=AbN w;refine gS (Y6 Ee rfl rfl (Ac hbf rfl) (gS (Zh Ee (Zf hrf rfl) (gS (Y7 (a:=(fs.length:Nat)) (b:=(0:Nat)) rfl rfl (AK _ _ _ _) (kT (by omega) (cT rfl (AE rfl (vr (NI 0) rfl) ?_))))))));exact⟨rfl,hE⟩
theorem XW(w:AcE)(bf:Nat)(vf:AcD)(fs:List Int)(hbf:w.heap[bf]? =some (.cells ([vf]).toArray 42 (0,0)))(hrf:RG 1 Mk w vf fs)(hap:OB vf bf)(m:Nat)(hm:m<4611686018427387904)(hf:0<fs.length):
  Calls AcF 50 #[NI m,PQ bf 0] w fun e w' =>∃v',e = .returned (NI (Ae6 (fs.getD 0 0) ((m+1:Nat):Int)).toNat)/\w'.heap[bf]? =some (.cells ([v']).toArray 42 (0,0))/\RG 1 Mk w' v' (fs.drop 1)/\v'.ownBlock=vf.ownBlock/\w.grownBy w' (some bf):=by
 have hbl:=(bl hbf);have hgr:=Adb w (some bf);refine gG (args:= [NI m,PQ bf 0]) Tryz.func50 rfl 23 rfl rfl ?_;have hE:=AbN w;refine gS (Y6 Ee rfl rfl (Ac hbf rfl) (gS (Zh Ee (Zf hrf rfl) (gS (Y7 (a:=(fs.length:Nat)) (b:=(0:Nat)) rfl rfl (AK _ _ _ _) (kF (by omega) (cF rfl (gS (Y6 Ee rfl rfl (Ac hbf rfl) ?_)))))))));have o:(Mk (fs.getD (0) (0:Int))).length=1:=(AbX hrf (0:Int) (by omega));refine gS (Zk Ee U0 (by decide) (0:Int) (Zf hrf rfl) rfl (by omega) fun p h=>(gS (Zt Nw rfl (PR.cell (Zs h rfl) rfl) ?_)));clear h;refine gS (Y6 Ee rfl rfl (Ac hbf rfl) (gS (AaV (l:=1) Ee U0 rfl hrf rfl (by omega) fun f c hown11=> ?_)));have hown:=hown11;have k:OB f bf:=fun e=>hap (hown.symm.trans e);refine gS (Za (i:=0) (v:=f) rfl rfl hbf (AcP rfl) Td (AbS c).1 (AbS c).2 fun n j g q=> ?_);have hrf:=RG.kept hrf g (.inr hap);have hgr:w.grownBy n (some bf):=Aa hgr g (fun _ e=> .inl e);clear hE;have c:=RG.kept c g (.inr k);clear hbf;have hbf:=j;clear j;have r:=bl hbf;have hbd:=PM (fs.getD 0 0) m;refine gS (Ze (xv:=NI m) (yv:=NI 1) rfl rfl rfl (AD _ _ _ (by omega)) (gS (Ze (xv:= .int .i64 (fs.getD (0) (0:Int))) (yv:=NI ((m)+(1))) rfl rfl rfl (Tc _ (fs.getD (0) (0:Int)) _ (by omega)) (gS (Ze (xv:= .int .i64 ((Afw (fs.getD (0) (0:Int)) ((m+1:Nat):Int)))) (yv:= .int .i64 (((m:Nat):Int))) rfl rfl rfl (SG _ ((Afw (fs.getD (0) (0:Int)) ((m+1:Nat):Int))) (((m:Nat):Int)) (by omega)) (gS (Ze (xv:= .int .i64 ((((Afw (fs.getD (0) (0:Int)) ((m+1:Nat):Int)))+(((m:Nat):Int))))) (yv:= .int .i64 (((1:Nat):Int))) rfl rfl rfl (SG _ ((((Afw (fs.getD (0) (0:Int)) ((m+1:Nat):Int)))+(((m:Nat):Int)))) (((1:Nat):Int)) (by omega)) (gS (Ze (xv:=NI m) (yv:=NI 1) rfl rfl rfl (AD _ _ _ (by omega)) (gS (Ze (xv:= .int .i64 ((((((Afw (fs.getD (0) (0:Int)) ((m+1:Nat):Int)))+(((m:Nat):Int))))+(((1:Nat):Int))))) (yv:=NI ((m)+(1))) rfl rfl rfl (WP _ (fs.getD 0 0) m _ (by omega)) (AE rfl (vr (NI ((Ae6 (fs.getD 0 0) ((m+1:Nat):Int)).toNat)) rfl) ?_))))))))))));exact⟨f,rfl,hbf,c,hown,hgr⟩
def H8(D:Al)(n:Nat):Bc:=(D.acts.take n).foldl turnD D.kept
theorem Q1{D:Al}{n:Nat}(h:n<D.acts.length):H8 D (n+1)=turnD (H8 D n) (D.acts.getD n ⟨[],[],0⟩):=by
 unfold H8;rw[Ad7 h,List.foldl_append,AcL,AcQ h];rfl
theorem U1{D:Al}(h:DOk D)(n:Nat):DirOk D.files.length (H8 D n):=h.kept.fold fun a ha=>h.acts a ((AfY _ _).subset ha)
theorem Q2(D:Al)(l:List Int):H8 D (Bz l 0 (D.acts.length+1))=AG D l:=rfl
def EN(D:Al)(l:List Int)(L:Bc)(n:Nat):List (Aib × Nat):=(L.take n).mapIdx fun i e=>Fb D l i e.2
def DW(L:Bc)(n:Nat):Bc:=CX (L.take n)
theorem JL{α β:Type}(f:Nat->α->β)(l:List α)(a:α):(l++ [a]).mapIdx f=l.mapIdx f++ [f l.length a]:=by
 rw[List.mapIdx_append];simp
theorem Te{D:Al}{l:List Int}{L:Bc}{n:Nat}(h:n<L.length):EN D l L (n+1)=EN D l L n++ [Fb D l n (L.getD n ([],0)).2]:=by
 unfold EN;rw[Ad7 h,JL,Ac4,Afo (by omega),AcL,AcQ h];rfl
theorem numN_succ{L:Bc}{n:Nat}(h:n<L.length):DW L (n+1)=DW L n++ [((L.getD n ([],0)).1,n)]:=by
 unfold DW CX;rw[Ad7 h,JL,Ac4,Afo (by omega),AcL,AcQ h];rfl
theorem U2(D:Al)(l:List Int)(L:Bc){n:Nat}(h:n<=L.length):(EN D l L n).length=n:=by
 unfold EN;rw[AfV,Ac4];omega
theorem Tf{L:Bc}(hs:Dr L){n:Nat}(h:n<L.length):lookD (DW L n) (L.getD n ([],0)).1=none:=by
 refine FN.2 fun e he q=> ?_;have h1:e.1∈(DW L n).map AdE:=AeR he;unfold DW at h1;rw[Gy]at h1;obtain⟨x,hx,hxe⟩:=AdC.1 h1;obtain⟨j,hj,hjx⟩:=AdM.1 hx;rw[Ac4]at hj;rw[List.getElem_take]at hjx;have h2:=AeK.1 hs j n (by omega) h (by omega);rw[AcL,AcQ h,Option.getD_some]at q;rw[hjx,hxe,q,FM]at h2;cases h2
theorem U3{L:Bc}(hs:Dr L){n:Nat}(h:n<L.length):updM (lookD (DW L n)) (L.getD n ([],0)).1 (some n)=lookD (DW L (n+1)):=by
 funext t
 rw[numN_succ h,HY];unfold updM;by_cases ht:t=(L.getD n ([],0)).1
 ·rw[if_pos ht,ht,Tf hs h];show _=lookD [_] _;rw[Cj,if_pos rfl]
 ·rw[if_neg ht];rw[Cj,if_neg (fun q=>ht q.symm)];show _=(lookD (DW L n) t).or none;rw[Option.or_none]
theorem GA(D:Al)(l:List Int):Bo D l = { quota:=D.quota,files:=EN D l (AG D l) (AG D l).length,now:=DW (AG D l) (AG D l).length,kept:=DW (AG D l) (AG D l).length,acts:= [],refused:=D.refused,arm:=0,down:=false } :=by
 unfold Bo EN DW;rw[List.take_length]
theorem WS{L:Bc}{n:Nat}{s:Aib}{k:Nat}(h:lookD (DW L n) s=some k):k<n:=by
 have:=EL h;unfold DW CX at this;obtain⟨i,hi,he⟩:=AfR.1 this;rw[Ac4]at hi;cases he;omega
theorem AaP{base:Nat}{w:AcE}{F:Nat->Nat}{V:Nat->AcD}{fs:List (Aib × Nat)}(h:FilesAt base w F V fs){f:Nat}{v:AcD}{x:Aib × Nat}(hf:FileAt base w f v x)(h1:∀k,k<fs.length->F k≠f)(h2:∀k,k<fs.length->∀i,(V k).ownBlock=some i->v.ownBlock≠some i):
  FilesAt base w (Bj F fs.length f) (Bj V fs.length v) (fs++ [x]):=by
 refine⟨fun k hk=> ?_,fun i j hi hj e=> ?_,fun i j hi hj hne y hy=> ?_⟩
 ·rw[AcJ,Adh]at hk;by_cases e:k=fs.length
  ·subst e;rw[BK,BK,FQ];exact hf
  ·have hk' :k<fs.length:=by omega
   rw[Bw _ _ hk',Bw _ _ hk',getD_left hk'];exact h.at_ k hk'
 ·rw[AcJ,Adh]at hi hj;by_cases ei:i=fs.length <;> by_cases ej:j=fs.length
  ·omega
  ·rw[ei,BK,Bw _ _ (by omega:j<fs.length)]at e;exact absurd e.symm (h1 j (by omega))
  ·rw[ej,BK,Bw _ _ (by omega:i<fs.length)]at e;exact absurd e (h1 i (by omega))
  ·rw[Bw _ _ (by omega:i<fs.length),Bw _ _ (by omega:j<fs.length)]at e;exact h.inj i j (by omega) (by omega) e
 ·rw[AcJ,Adh]at hi hj;by_cases ei:i=fs.length
  ·rw[ei,BK]at hy;rw[Bw _ _ (by omega:j<fs.length)];exact fun q=>h2 j (by omega) y q hy
  ·rw[Bw _ _ (by omega:i<fs.length)]at hy;by_cases ej:j=fs.length
   ·rw[ej,BK];exact h2 i (by omega) y hy
   ·rw[Bw _ _ (by omega:j<fs.length)];exact h.apart i j (by omega) (by omega) hne y hy
section
variable {base : Nat} {w w' : AcE} {H : Dk} {D : Al}
theorem FilesAt.setT{F:Nat->Nat}{V:Nat->AcD}{fs:List (Aib × Nat)}(h:FilesAt base w F V fs){g x:Nat}(hg:w.grownBy w' (some g))(ht:Cz w g=some x)(h1:x≠120+1)(h2:x≠5+1):FilesAt base w' F V fs:=
 h.chg (B:=fun i=>i=g) (ZH hg fun i e=> .inl (Ac9 e).symm) fun k hk=>
  ⟨fun e=>BD (Bp (h.at_ k hk).blk) ht (fun q=>h1 q.symm) e,fun i hi e=>BD (EW (h.at_ k hk).row hi) ht (fun q=>h2 q.symm) e⟩
theorem FilesAt.keep{F:Nat->Nat}{V:Nat->AcD}{fs:List (Aib × Nat)}(h:FilesAt base w F V fs)(hE:Ext w w'):FilesAt base w' F V fs:=FilesAt.chg h (B:=fun _=>False) (Acj hE) fun _ _=>⟨fun q=>q,fun _ _ q=>q⟩
theorem FilesAt.low{F:Nat->Nat}{V:Nat->AcD}{fs:List (Aib × Nat)}(h:FilesAt base w F V fs){b' :Nat}(hb:b' <=base):FilesAt b' w F V fs:=⟨fun k hk=>⟨(h.at_ k hk).blk,AI (h.at_ k hk).row hb,AcG hb (h.at_ k hk).lo⟩,h.inj,h.apart⟩
theorem FilesAt.nil(F:Nat->Nat)(V:Nat->AcD):FilesAt base w F V []:=⟨fun k hk=>absurd hk (AdN _),fun i j hi=>absurd hi (AdN _),fun i j hi=>absurd hi (AdN _)⟩
theorem DkS.crashed(h:DkS base w H D){l:List Int}{F' :Nat->Nat}{V' :Nat->AcD}{na nb:Nat}(h0:base<=w.heap.size)(hc:Chg (fun i=>i=H.g) w w')(hb:w'.heap[H.g]? =some (.cells (IU D.quota na nb (.slice none 0 0) D.refused 0 false).toArray 82 (0,0))) 
  (ha:MapF St (pF F') Nm w' na (lookD (DW (AG D l) (AG D l).length))) (hk:MapF St (pF F') Nm w' nb (lookD (DW (AG D l) (AG D l).length))) (hne:na≠nb) (hna:w.heap.size<=na) (hnb:w.heap.size<=nb)
  (hf:FilesAt w.heap.size w' F' V' (EN D l (AG D l) (AG D l).length)):DkT base w H D w' ⟨H.g,na,nb, .slice none 0 0,F',V'⟩ (Bo D l):=by
 have hok:=h.ok.crash l;have hl:(Bo D l).files.length=(EN D l (AG D l) (AG D l).length).length:=by rw[GA]
 refine⟨⟨by rw[GA];exact hb,by rw[GA];exact ha,by rw[GA];exact hk,hne,⟨[],Aej _ _ _ 1,rfl,fun i hi=>absurd hi (AdN _)⟩,by rw[GA];exact hf.low h0,hok,⟨h.lo.1,AcG h0 hna,AcG h0 hnb⟩⟩,rfl,hc.mono fun i _ e=> .inl e,fun i hi=> ?_⟩;rcases hi with e | e | e | e | ⟨k,hk',e⟩
 ·exact .inl (.inl e)
 ·exact .inr ((show i=na from e)▸hna)
 ·exact .inr ((show i=nb from e)▸hnb)
 ·cases(show(none:Option Nat)=some i from e)
 ·rw[hl]at hk';rcases e with e | e
  ·exact .inr ((show i=F' k from e)▸(hf.at_ k hk').lo)
  ·exact .inr (((hf.at_ k hk').row.lt i e).1)
end
def FAt(n0:Nat)(w:AcE)(v:AcD)(l:List Int):Prop:=RG 1 (fun n:Int=> [AeY .i64 n]) w v l/\(l= []\/∃b,v.ownBlock=some b/\b<n0)
theorem Q3{α:Type}{k:Nat}{enc:α->List AcD}{w w' :AcE}{v:AcD}(h:RG k enc w v ([]:List α)):RG k enc w' v []:=by
 obtain⟨h0,h1,ao,cap,rfl,h2,h3,h4,h5⟩:=h;exact⟨h0,h1,ao,cap,rfl,h2,h3,h4,fun a _ j u hu=>by simp at hu⟩
theorem FAt.keep{a:Nat}{w w' :AcE}{v:AcD}{l:List Int}(h:FAt a w v l)(hE:Ext w w'):FAt a w' v l:=⟨h.1.keep hE,h.2⟩
theorem AbJ{w:AcE}{v:AcD}{l:List Int}(h:RG 1 (fun n:Int=> [AeY .i64 n]) w v l):FAt w.heap.size w v l:=by
 refine⟨h,?_⟩;cases l with
 | nil=>exact .inl rfl
 | cons x r=>
  obtain⟨-,h1,ao,cap,rfl,h2,h3,h4,h5⟩:=id h;cases ao with
  | none=>exact absurd (h4 rfl).1 (by simp)
  | some a=>
   have hc:=h5 a rfl 0 (.int .i64 x) (by simp);have hl:=AdP w _ hc;refine .inr ⟨a.block,rfl,?_⟩;have e:(a.add 0).block=a.block:=by unfold Addr.add;split <;> rfl
   rwa [e]at hl
theorem Th{α:Type}{l:List α}{n i:Nat}{d:α}(h:i<n):(l.take n).getD i d=l.getD i d:=by
 rw[AcL,List.getElem?_take_of_lt h,<-AcL]
theorem U4{l:Bc}{j:Nat}(h:j<l.length):(l.map AdE).getD j []=(l.getD j ([],0)).1:=by
 rw[AcL,AcL,List.getElem?_map,AcQ h];rfl
theorem N6:∀(acs:List BQ) (l:Bc),(acs.foldl turnD l).length<=l.length+acs.length
 | [],l=>AcI _
 | a :: r,l=>by
  have h1:=N6 r (turnD l a);have h2:=NZ l a;rw[List.foldl_cons,AcV];omega
theorem N7(D:Al)(fs:List Int):(AG D fs).length<=D.kept.length+D.acts.length:=by
 have h:=N6 (D.acts.take (Bz fs 0 (D.acts.length+1))) D.kept;rw[Ac4]at h;unfold AG;omega
theorem FAt.set{a:Nat}{w w' :AcE}{v:AcD}{l:List Int}(h:FAt a w v l){g:Nat}(hg:w.grownBy w' (some g))(hn:a<=g):FAt a w' v l:=by
 rcases h.2 with rfl | ⟨b,hb,hl⟩
 ·exact⟨Q3 h.1, .inl rfl⟩
 ·exact⟨h.1.kept hg (.inr (fun e=>by have:=Ac9 (hb.symm.trans e);omega)), .inr ⟨b,hb,hl⟩⟩
theorem N8(w:AcE)(a bf:Nat)(hn:a<=bf)(vf:AcD)(fs:List Int)(i:Nat)(hbf:w.heap[bf]? =some (.cells ([vf]).toArray 42 (0,0)))(hF:FAt a w vf (fs.drop i))(m:Nat)(hm:m<4611686018427387904):
  Calls AcF 50 #[NI m,PQ bf 0] w fun e w' =>∃v',e = .returned (NI (Bz fs i (m+1)))/\w'.heap[bf]? =some (.cells ([v']).toArray 42 (0,0))/\FAt a w' v' (fs.drop (i+1))/\w.grownBy w' (some bf):=by
 by_cases hi:i<fs.length
 ·have hl:0<(fs.drop i).length:=by rw[List.length_drop];omega
  rcases hF.2 with h0 | ⟨b,hb,hlt⟩
  ·rw[h0]at hl;exact absurd hl (AgA _)
  ·refine(XW w bf vf (fs.drop i) hbf hF.1 (fun e=>by have:=Ac9 (hb.symm.trans e);omega) m hm hl).mono fun e w' q=> ?_;obtain⟨v',h1,h2,h3,h4,h5⟩:=q;refine⟨v',?_,h2,⟨by rw[List.drop_drop]at h3;exact h3, .inr ⟨b,h4.trans hb,hlt⟩⟩,h5⟩;rw[h1];unfold Bz;rw[if_pos hi,AcL,List.getElem?_drop,Nat.add_zero,<-AcL]
 ·have h0:fs.drop i= []:=Ahq (by omega);have h1:fs.drop (i+1)= []:=Ahq (by omega);rw[h0]at hF;refine(XV w bf vf [] hbf hF.1 m hm rfl).mono fun e w' q=> ?_;obtain⟨he,hE⟩:=q;exact⟨vf,by rw[he];unfold Bz;rw[if_neg hi],(eb hE hbf),by rw[h1];exact hF.keep hE,Aa (Adb w (some bf)) hE.grown (fun _ e=>by cases e)⟩
theorem N9:Plain AcF 50:=fun _ _=>by kernel_rfl
theorem Ti:∀w' :AcE,(sizeOf 113).run AcF w' = .ok 1 w' :=fun _=>by kernel_rfl
theorem Tj:Tryz.prog.underlying 113=some (.func #[79] #[] false):=by kernel_rfl
theorem U5:Plain AcF 53:=fun _ _=>by kernel_rfl
theorem U6:Plain AcF 52:=fun _ _=>by kernel_rfl
theorem XX(ao:Option Addr)(n c:Nat)(z:Int)(w:AcE):(AdI 120 #[(0, .slice ao n c),(1, .int .i64 z)]).run AcF w = .ok (.agg #[.slice ao n c, .int .i64 z]) w:=by kernel_rfl
theorem U7(w0 w:AcE)(ax:Ext w0 w)(H:Dk)(D:Al)(hS:DkS w0.heap.size w H D)(vf:AcD)(fs:List Int)(hrf:RG 1 (fun n:Int=> [AeY .i64 n]) w vf fs)(hL:EB D):
  Calls AcF 21 #[PQ H.g 0,vf] w fun e w' =>∃H',e = .returned (.tuple #[])/\DkT w0.heap.size w H D w' H' (Bo D fs):=by
 have hb:=hS.blk;have hgl:=(bl hb);have hgl0:=hS.lo.1;have hsz0:=ax.size;have t:=hS;have bs:=ax;obtain⟨vs,hvs⟩:=hS.acts;have hvl:=hvs.len;have hva:RG 1 JH w H.va vs:=Y8 (⟨fun _ _=>rfl,by rw[enV_flat];exact hvs.row⟩:OG w0.heap.size 113 1 JH w H.va vs);have hFA:=AbJ hrf;have hact:=hL.acts;refine gG (args:= [PQ H.g 0,vf]) Tryz.func21 rfl 102 rfl rfl ?_;have hE:=AbN w;refine gS (ZM (vr vf rfl) (AbS (hrf.keep hE)).1 fun p w3 cd a6 a7 ce=> ?_);have m:=AbN w;have cf:=hE.size;have cg:=ax.size;have r:=a6;clear a6;have ch:p<w3.heap.size:=by omega
 have m:=m.trans a7;have hFA:FAt w.heap.size w3 vf (fs.drop 0):=(hFA.keep m);have hbfw:w.heap.size<=p:=by omega
 have hbfl:p<w3.heap.size:=(bl r);have hE:=hE.trans a7;refine gS (ZJ UO rfl (kB (rfl) (cF rfl (gS (Zu (vs:= #[PQ p 0]) (by simp only[AcT,AcX,Ac2];exact congrArg Adf (Fx (vr (PQ p 0) rfl))) (gS (AbO rfl (gS (AbM QY rfl (gS (Y6 N1 rfl rfl (Ac (eb hE hb) rfl) (gS (Y9 UU rfl ((IW _ (hS.keep hE).kept).mono ?_))))))))))))));rintro e a8 ⟨nl,rfl,hnl,hml,az⟩;refine⟨_,rfl,?_⟩;have hFA:FAt w.heap.size a8 vf (fs.drop 0):=(hFA.keep az);have hE:=hE.trans az;have hnlw:w.heap.size<=nl:=by have:=hE.size;omega
 have hnb:p≠nl:=by omega
 have hml:MapF St (pF H.F) Nm a8 nl (lookD (H8 D 0)):=hml;have hnll:=hml.lt;refine Fg [0,1,2,3,4,5,6,7,8,9,13,10,11,12] [10] [1,2] [3] fun bt ap=> ?_;have hFA:FAt w.heap.size bt vf (fs.drop 0):=(hFA.keep ap);have hE:=hE.trans ap;refine Fm hE ?_;refine yp (AbO rfl zz) (yp (AbM KY rfl zz) (yf (fun _ ⟨hE,_⟩=>Y6 J4 rfl rfl (Ac (eb hE hb) rfl) zz) (ys (AbO rfl zz) (ys (AbM KY rfl zz) (ys (Y6 J4 rfl rfl (Ac (eb hE hb) rfl) zz) (ys (Zh J4 (Zf (hva.keep hE) rfl) zz) ?_))))));have hZ1:=az.trans ap;have r:=eb hZ1 r;have htb:=Bp r;refine yI (ZA N9 (caps:= #[PQ p 0]) rfl #[NI vs.length,PQ p 0] (by simp only[AcT,AcX,Ac2,Adu,Ade,Adm];exact congrArg Adf (B6 rfl rfl)) ((N8 _ w.heap.size p hbfw vf fs (0) r hFA (vs.length) (by omega)).mono ?_));rintro e ci ⟨af,rfl,a9,hF26,a0⟩;refine⟨_,rfl,?_⟩;have hml:=hml.keep ap;have hml:=Ab2 hml a0 (Co (by omega));clear hFA;clear r;have r:=a9;clear a9;have hFA:=hF26;clear hF26;have cj:=bl r;have hE:=Ad hE a0 (AcG (AcI _) (by omega));refine⟨⟨hE,trivial⟩,?_⟩;have hnf:Bz fs (0) (vs.length+1)<=vs.length:=by have:=H4 fs 0 (n:=vs.length+1) (Nat.succ_pos _);omega
 refine yS (AaW (n:=Bz fs (0) (vs.length+1)) J4 Ti rfl (hva.keep hE) rfl hnf fun aj bu hown33=> ?_);have hvt:=bu;have hvb:Adp aj=H.va.ownBlock:=hown33;have hvnl:OB aj nl:=fun e=>by have h:=hvb.symm.trans e;have:=(hvs.row.lt _ h).2;omega
 have m:=m.trans hZ1;have m:=Ad m a0 (AcG (AcI _) (by omega));refine ys (Zh J4 (Zf hvt rfl) zz) (gL (fun(ρ:Aj) (wz:AcE)=>∃i:Nat,ρ 0=(PQ H.g 0:AcD)/\ρ 1=(vf:AcD)/\ρ 3=(PQ p 0:AcD)/\ρ 4=(.func (.func 50) #[] #[PQ p 0]:AcD)/\ρ 5=(.map (some nl):AcD)/\ρ 14=(.bool (false):AcD)/\ρ 32=(aj:AcD)/\ρ 33=(NI (((vs.take (Bz fs (0) (vs.length+1)))).length):AcD)/\ρ 34=(NI i:AcD)/\Ext w wz/\Ext w wz/\wz.heap[p]? =some (.cells ([af]).toArray 42 (0,0))/\FAt w.heap.size wz af (fs.drop (1))/\RG 1 (JH) wz aj (vs.take (Bz fs (0) (vs.length+1)))/\MapF St (pF H.F) Nm wz nl (lookD (H8 D i))/\(i<=Bz fs (0) (vs.length+1))/\True) (fun ρ _=>(Bz fs (0) (vs.length+1))-(intOf (ρ 34)).toNat) ⟨0,rfl,rfl,rfl,rfl,rfl,rfl,rfl,rfl,rfl,hE,m,r,hFA,hvt,hml,AcZ _,trivial⟩ ?_);clear hml;clear hE r hFA hvt;rintro bv bw ⟨i,u,T1,T3,T4,T5,aq,ak,al,ag,hE,m,r,hFA,hvt,hml,hi,-⟩;have q34:=ag;refine gS (Y7 (a:=(i:Nat)) (b:=(((vs.take (Bz fs (0) (vs.length+1)))).length:Nat)) ag al (Bf _ _ _ _) ?_);refine cD rfl (fun a1=> ?_) fun a1=> ?_
 ·have hlt:i<Bz fs (0) (vs.length+1):=by have h:=a1;rw[Ac4]at h;omega
  have hia:i<D.acts.length:=by have:=H4 fs 0 (n:=vs.length+1) (Nat.succ_pos _);omega
  have hhE:=hE;have hat:ActAt bw H.F ((vs.take (Bz fs (0) (vs.length+1))).getD i undef) (D.acts.getD i ⟨[],[],0⟩):=by rw[Th hlt];exact(hvs.at_ i hia).chg (B:=fun _=>False) (Acj hhE) (fun _ _ q=>q.elim) rfl
  have haok:=t.ok.acts _ (DC (d:=⟨[],[],0⟩) hia);obtain⟨f,caps,hve,hpl,hcl⟩:=N3 hat hml (U1 t.ok i) haok;have ck:(JH (((vs.take (Bz fs (0) (vs.length+1)))).getD (i) undef)).length=1:=(AbX hvt undef (by omega));refine gS (Zk J4 Ti (by decide) undef (Zf hvt ak) ag (by omega) fun cl ba=>(gS (Zt Tj rfl (PR.cell (Zs ba rfl) rfl) ?_)));clear ba;refine gS (Aa5 hpl rfl hve T5 hcl fun bx hR44=> ?_);have hE:=Ad hE hR44.2 (AcG (AcI _) (by omega));have m:=Ad m hR44.2 (AcG (AcI _) (by omega));have r:=kb hR44.2 r (by omega);have hFA:FAt w.heap.size bx af (fs.drop (1)):=FAt.set hFA hR44.2 (by omega);have hvt:=RG.kept hvt hR44.2 (.inr hvnl);clear hml;have hml:=hR44.1;rw[<-Q1 hia]at hml;have hnll:=hml.lt;refine gS (Ze (xv:=NI i) (yv:=NI 1) ag rfl rfl (AD _ _ _ (by omega)) (gK (And.intro ⟨i+1,u,T1,T3,T4,T5,aq,ak,al,rfl,hE,m,r,hFA,hvt,hml,by omega,trivial⟩ ?_)));show(Bz fs (0) (vs.length+1))-(intOf (NI ((i)+(1)))).toNat<(Bz fs (0) (vs.length+1))-(intOf (bv 34)).toNat;rw[q34];simp only[intOf,Ac8];omega
 have hie:i=Bz fs (0) (vs.length+1):=by have h:=a1;rw[Ac4]at h;omega
 rw[hie,hvl,Q2]at hml;have hLok:=t.ok.left fs;have hLs:=hLok.sort;have hLl:(AG D fs).length<1099511627776:=Nat.lt_of_le_of_lt (N7 D fs) hL.kept;have hzc:=hE.size;have hnlc:=MapF.lt hml;have hbfc:=(bl r);refine gS (Aab St (pF (fun _=>0)) Nm fun na ar cm hm48 a2 cn=> ?_);have hFA:FAt w.heap.size ar af (fs.drop (1)):=(hFA.keep a2);have hnaw:w.heap.size<=na:=by omega
 have hnan:na≠nl:=by omega
 have hnab:na≠p:=by omega
 have hnag:na≠H.g:=by omega
 have hma:MapF St (pF (fun _=>0)) Nm ar na (lookD (DW (AG D fs) 0)):=hm48;have hnal:=hma.lt;have hml:=hml.keep a2;have hm1:=hml;refine gS (Y9 U5 T5 ((US _ _).mono ?_));rintro e a3 ⟨rfl,hwk⟩;refine⟨_,rfl,?_⟩;have hxk:Ext ar a3:=by rw[hwk];exact(AdA _ _).alloc (AcI _) _
 have hFA:FAt w.heap.size a3 af (fs.drop (1)):=(hFA.keep hxk);have hZ2:=a2.trans hxk;have hE:=hE.trans hZ2;have hzk:=hE.size;refine gS (Y9 U6 rfl ((QX ar a3 hwk hm1 hLok hLl).mono ?_));rintro e bb ⟨vn,rfl,hnr0,au⟩;refine⟨_,rfl,?_⟩;have hFA:FAt w.heap.size bb af (fs.drop (1)):=(hFA.keep au);have hE:=hE.trans au;have hnr:OG w.heap.size 9 1 FO bb vn ((AG D fs).map AdE):=AbY hnr0 (by have:=hE.size;omega);have hZ3:=hZ2.trans au;have r:=eb hZ3 r;have hnrb:OB vn p:=fun e=>BD (EW hnr.2 e) (Bp r) (by decide) rfl;have hZ4:=hxk.trans au;have hma:=hma.keep hZ4;have hnra:OB vn na:=fun e=>BD (EW hnr.2 e) (MapF.tag hma) (by decide) rfl;have m:=m.trans hZ3;have hml:=hml.keep hZ4;refine gS (Zh Ml (Zf (Y8 hnr) rfl) (gL (fun(ρ:Aj) (wz:AcE)=>∃j:Nat,∃vb:AcD,∃F1:Nat->Nat,∃V1:Nat->AcD,ρ 0=(PQ H.g 0:AcD)/\ρ 1=(vf:AcD)/\ρ 3=(PQ p 0:AcD)/\ρ 4=(.func (.func 50) #[] #[PQ p 0]:AcD)/\ρ 5=(.map (some nl):AcD)/\ρ 8=(.map (some na):AcD)/\ρ 14=(.bool (false):AcD)/\ρ 32=(aj:AcD)/\ρ 33=(NI (((vs.take (Bz fs (0) (vs.length+1)))).length):AcD)/\ρ 34=(NI i:AcD)/\ρ 45=(vn:AcD)/\ρ 46=(NI ((((AG D fs).map AdE)).length):AcD)/\ρ 47=(NI j:AcD)/\Ext w wz/\Ext w wz/\MapF St (pF H.F) Nm wz nl (lookD (AG D fs))/\OG w.heap.size 9 1 (FO) wz vn ((AG D fs).map AdE)/\wz.heap[p]? =some (.cells ([vb]).toArray 42 (0,0))/\FAt w.heap.size wz vb (fs.drop (j+1))/\MapF St (pF F1) Nm wz na (lookD (DW (AG D fs) j))/\FilesAt w.heap.size wz F1 V1 (EN D fs (AG D fs) j)/\(j<=(AG D fs).length)/\True) (fun ρ _=>(AG D fs).length-(intOf (ρ 47)).toNat) ⟨0,af,(fun _=>0),(fun _=> .slice none 0 0),u,T1,T3,T4,T5,rfl,aq,ak,al,ag,rfl,rfl,rfl,hE,m,hml,hnr,r,hFA,hma,FilesAt.nil _ _,AcZ _,trivial⟩ ?_));clear r;clear hFA;clear hvt;clear hma;clear hE m hml hnr;rintro bz co ⟨j,vb,F1,V1,u,T1,T3,T4,T5,T8,aq,ak,al,ag,bc,bd,aw,hE,m,hml,hnr,hbv,hFA,hma,hfi,hj,-⟩;have q47:=aw;have hbfl2:=(bl hbv);have hnal2:=hma.lt;refine gS (Y7 (a:=(j:Nat)) (b:=((((AG D fs).map AdE)).length:Nat)) aw bd (Bf _ _ _ _) ?_);refine cD rfl (fun a4=> ?_) fun a4=> ?_
 ·have hlt:j<(AG D fs).length:=by have h:=a4;rw[Ad5]at h;exact h
  have hhE:=hE;have hnm:((AG D fs).map AdE).getD j []=((AG D fs).getD j ([],0)).1:=U4 hlt;obtain⟨k,hk⟩:∃k,k=((AG D fs).getD j ([],0)).2:=⟨_,rfl⟩;have hmemj:=DC (d:=([],0)) hlt;have hlk:lookD (AG D fs) (((AG D fs).map AdE).getD j [])=some k:=by rw[hnm,hk];exact Hr hLs hmemj
  have hkl:k<D.files.length:=hk▸hLok.num _ hmemj;have hmj:Bn (((AG D fs).map AdE).getD j [])=true:=by rw[hnm];exact hLok.may _ hmemj
  have hfa:=t.files.at_ k hkl;have hfb:=hfa.blk;have hfr:RB w (H.V k) (D.files.getD k ([],0)).1:=Zm hfa.row;have hfl:=hL.files _ (DC (d:=([],0)) hkl);have hsy:=t.ok.syn _ (DC (d:=([],0)) hkl);have cp:(FO ((((AG D fs).map AdE)).getD (j) ([]:Aib))).length=1:=(AbX (Y8 hnr) ([]:Aib) (by omega));refine gS (Zk Ml UP (by decide) ([]:Aib) (Zf (Y8 hnr) bc) aw (by omega) fun cq be=>(gS (Zt EK rfl (PR.cell (Zs be rfl) rfl) ?_)));clear be;refine gS (ZX FX EH (fun _ _=>DQ) N1 H5 T5 rfl hml (BR hmj).2 hlk ?_);have hfi_j0:=hfi;refine Fg [0,1,2,3,4,5,6,7,8,9,10,11,12,13,14,15,16,17] [15] [1,2] [3] fun bf aa=> ?_;have hFA:FAt w.heap.size bf vb (fs.drop (j+1)):=(hFA.keep aa);have hfi:FilesAt w.heap.size bf F1 V1 (EN D fs (AG D fs) j):=(hfi.keep aa);have hE:=hE.trans aa;refine Fm hE ?_;refine yp (AbO rfl zz) (yp (AbM Pa rfl zz) (yf (fun _ ⟨hE,_⟩=>Y6 Nw rfl rfl (Ac (eb hE hfb) rfl) zz) (ys (AbO rfl zz) (ys (AbM O8 rfl zz) (ys (Y6 G8 rfl rfl (Ac (eb hE hfb) rfl) zz) (ys (Zw G8 (Zx (hfr.keep hE) rfl) zz) (ys (AbO rfl zz) (ys (AbM Pa rfl zz) (ys (Y6 Nw rfl rfl (Ac (eb hE hfb) rfl) zz) (ys (Ze (xv:=NI (((D.files.getD k ([],0)).1:Aib).length)) (yv:=NI ((D.files.getD k ([],0)).2)) rfl rfl rfl (Fk _ _ _ (by omega) (by omega)) zz) ?_))))))))));have hbv:=eb aa hbv;have htb:=Bp hbv;refine yI (ZA N9 (caps:= #[PQ p 0]) T4 #[NI ((((D.files.getD k ([],0)).1:Aib).length)-((D.files.getD k ([],0)).2)),PQ p 0] (by simp only[AcT,AcX,Ac2,Adu,Ade,Adm];exact congrArg Adf (B6 rfl rfl)) ((N8 _ w.heap.size p hbfw vb fs (j+1) hbv hFA ((((D.files.getD k ([],0)).1:Aib).length)-((D.files.getD k ([],0)).2)) (by omega)).mono ?_));rintro e bg ⟨bh,rfl,bi,hF70,ai⟩;refine⟨_,rfl,?_⟩;have hml:=hml.keep aa;have hml:=Ab2 hml ai (Co (by omega));have hma:=hma.keep aa;have hma:=Ab2 hma ai (Co (by omega));have hfi:FilesAt w.heap.size bg F1 V1 (EN D fs (AG D fs) j):=FilesAt.setT hfi ai htb (by decide) (by decide);clear hbv;clear hFA;have hbv:=bi;clear bi;have hFA:=hF70;clear hF70;have cr:=bl hbv;have hE:=Ad hE ai (AcG (AcI _) (by omega));refine⟨⟨hE,trivial⟩,?_⟩;refine ys (Ze (xv:=NI ((D.files.getD k ([],0)).2)) (yv:=NI (Bz fs (j+1) ((((D.files.getD k ([],0)).1:Aib).length)-((D.files.getD k ([],0)).2)+1))) rfl rfl rfl (AD _ _ _ (by have h:=(Gx t.ok fs j k).2;change (Fb D fs j k).2<=(D.files.getD k ([],0)).1.length at h;show(Fb D fs j k).2<_;omega)) zz) ?_;have hcut:=Gx t.ok fs j k;refine gS (AbO rfl (gS (AbM O8 rfl (gS (Y6 G8 rfl rfl (Ac (eb hE hfb) rfl) (gS (Aba (xs:=(D.files.getD k ([],0)).1) (n:=((D.files.getD k ([],0)).2)+((Bz fs (j+1) ((((D.files.getD k ([],0)).1:Aib).length)-((D.files.getD k ([],0)).2)+1)))) G8 Qd rfl (hfr.keep hE) rfl (by exact(Gx t.ok fs j k).2) fun b0 b1 ha77=> ?_)))))));have hfi_c:=hfi;refine gS (Y9 UZ rfl ((Mp _ b0 (((D.files.getD k ([],0)).1:Aib).take (((D.files.getD k ([],0)).2)+((Bz fs (j+1) ((((D.files.getD k ([],0)).1:Aib).length)-((D.files.getD k ([],0)).2)+1))))) b1 (by simp only[Ac4];omega)).mono ?_));rintro e cs ⟨ab,rfl,ac⟩;refine⟨_,rfl,?_⟩;have ad:=AbN bg;have m:=m.trans aa;have m:=Ad m ai (AcG (AcI _) (by omega));have ct:=hE.size;have cu:=m.size;have hnr:=hnr.keep aa;have hnr:=AbQ hnr ai hnrb;have am:=ac.own;obtain⟨ao_,n_,c_,hsl_⟩:∃ao n c,ab = .slice ao n c:=RB.slice (Zm am);refine gS (ZU (v:= .agg ([ab,NI (((D.files.getD k ([],0)).2)+((Bz fs (j+1) ((((D.files.getD k ([],0)).1:Aib).length)-((D.files.getD k ([],0)).2)+1))))]:List AcD).toArray) (vr ab rfl) (vr (NI (((D.files.getD k ([],0)).2)+((Bz fs (j+1) ((((D.files.getD k ([],0)).1:Aib).length)-((D.files.getD k ([],0)).2)+1))))) rfl) (fun w=>by rw[hsl_];exact XX _ _ _ _ w) ?_);have hE:=hE.trans ac.ext;have hzb:=hE.size;have ad:=ad.trans ac.ext;have hfi_j:=(hfi.keep ad);refine gS (Ab3 (vr (.agg ([ab,NI (((D.files.getD k ([],0)).2)+((Bz fs (j+1) ((((D.files.getD k ([],0)).1:Aib).length)-((D.files.getD k ([],0)).2)+1))))]:List AcD).toArray) rfl) fun s bj a5 bk ae cv=> ?_);have m:=m.trans ac.ext;have cw:=hE.size;have cx:=m.size;have cy:=ad.size;have hml:=hml.keep ac.ext;have cz:=AR hml.lt a5;have hma:=hma.keep ac.ext;have c0:=AR hma.lt a5;have b2:=bk;clear bk;have c1:s<bj.heap.size:=by omega
  have hgfw:w.heap.size<=s:=by omega
  have hma:=hma.keep ae;have hmc:=MapF.congr (ev' :=pF (Bj F1 j s)) hma (fun a y hy=>by show PQ (Bj _ _ _ _) 0=_;rw[Bw _ _ (WS hy)]);have htm:=MapF.tag hmc;have am:=Ab5 _ _ _ _ _ _ _ _ am ae;have ad:=ad.trans ae;have hfi2:FilesAt w.heap.size bj (Bj F1 j s) (Bj V1 j ab) (EN D fs (AG D fs) (j+1)):=by
   have hl:=U2 D fs (AG D fs) hj;have h:=AaP (hfi.keep ad) (f:=s) (v:=ab) (x:=Fb D fs j ((AG D fs).getD j ([],0)).2) ⟨by rw[<-hk];exact b2,by rw[<-hk];exact AI am (by omega),hgfw⟩ (fun q hq e=>by have:=(bl (hfi_j.at_ q hq).blk);rw[e]at this;exact absurd this (by omega)) (fun q hq i hi e=>by have h1:=((hfi_c.at_ q hq).row.lt i hi).2;have h2:=(World.ownsRow.lt am i e).1;omega);rw[hl]at h;rw[Te hlt];exact h
  refine gS (Aaw (ev:=pF (Bj F1 j s)) (c:=j) FX EH N1 T8 (vr (St ((((AG D fs).map AdE)).getD (j) ([]:Aib))) rfl) (Eq.trans ((vr (PQ s 0) rfl)) (by show _=PQ (Bj F1 j s j) 0;rw[BK])) hmc (BR hmj).2 fun bm hM113 ah c2=> ?_);have hfi:=hfi2;have hml:=hml.keep ae;have hml:=Ab2 hml ah (Co (by omega));have hfi:FilesAt w.heap.size bm (Bj F1 j s) (Bj V1 j ab) (EN D fs (AG D fs) (j+1)):=FilesAt.setT hfi ah htm (by decide) (by decide);have hFA:=hFA.keep ad;have hFA:FAt w.heap.size bm bh (fs.drop (j+1+1)):=FAt.set hFA ah (by omega);clear hma;have hma:=hM113;rw[hnm,U3 hLs hlt]at hma;have hnr:=hnr.keep ac.ext;have hnr:=hnr.keep ae;have hnr:=AbQ hnr ah hnra;have hbv:=eb ac.ext hbv;have c3:=AR (bl hbv) a5;have hbv:=eb ae hbv;have hbv:=kb ah hbv (by omega);have hE:=hE.trans ae;have hE:=Ad hE ah (AcG (AcI _) (by omega));have m:=m.trans ae;have m:=Ad m ah (AcG (AcI _) (by omega));refine gS (Ze (xv:=NI j) (yv:=NI 1) aw rfl rfl (AD _ _ _ (by omega)) (gK (And.intro ⟨j+1,bh,(Bj F1 j s),(Bj V1 j ab),u,T1,T3,T4,T5,T8,aq,ak,al,ag,bc,bd,rfl,hE,m,hml,hnr,hbv,hFA,hma,hfi,by omega,trivial⟩ ?_)));show(AG D fs).length-(intOf (NI ((j)+(1)))).toNat<(AG D fs).length-(intOf (bz 47)).toNat;rw[q47];simp only[intOf,Ac8];omega
 have hje:j=(AG D fs).length:=by have h:=a4;rw[Ad5]at h;omega
 rw[hje]at hma hfi;have o:=(eb hE hb);have hgl17:=(bl o);have c4:=hE.size;have hnal17:=MapF.lt hma;refine gS (Y9 UU T8 ((IW _ hma).mono ?_));rintro e z ⟨nb,rfl,hnbl,hmb17,an⟩;refine⟨_,rfl,?_⟩;have hFA:FAt w.heap.size z vb (fs.drop (j+1)):=(hFA.keep an);have hfi:FilesAt w.heap.size z F1 V1 (EN D fs (AG D fs) (AG D fs).length):=(hfi.keep an);have hfi17:=hfi;have hma:=hma.keep an;have hma17:=hma;have hE:=hE.trans an;have hhE17:=hE;have o:=eb an o;have htd17:=Bp o;have hnbw:w.heap.size<=nb:=by omega
 have hnabn:na≠nb:=by omega
 have hgnb:H.g≠nb:=by omega
 have hC2:Chg (fun i=>i=H.g) z z:=Acq _ _;refine gS (AbO u (gS (AbM QT rfl (gS (Za (i:=1) (v:= .map (some na)) rfl T8 o (AcP rfl) S7 rfl rfl fun b3 bn b4 c5=> ?_)))));clear m;clear hnr;have hC2:Chg (fun i=>i=H.g) z b3:=Acd hC2 b4 (.inl rfl);clear o;have o:=bn;clear bn;have c6:=bl o;refine gS (AbO u (gS (AbM QY rfl (gS (Za (i:=2) (v:= .map (some nb)) rfl rfl o (AcP rfl) S7 rfl rfl fun b5 bo b6 c7=> ?_)))));have hC2:Chg (fun i=>i=H.g) z b5:=Acd hC2 b6 (.inl rfl);clear o;have o:=bo;clear bo;have c8:=bl o;refine gS (AbO u (gS (AbM KY rfl (gS (Za (i:=3) (v:=(AcU none 0 0)) rfl rfl o (AcP rfl) S5 rfl rfl fun b7 bp b8 c9=> ?_)))));have hC2:Chg (fun i=>i=H.g) z b7:=Acd hC2 b8 (.inl rfl);clear o;have o:=bp;clear bp;have da:=bl o;refine gS (AbO u (gS (AbM CY rfl (gS (Za (i:=5) (v:=NI 0) rfl rfl o (AcP rfl) DB rfl rfl fun b9 bq ca db=> ?_)))));have hC2:Chg (fun i=>i=H.g) z b9:=Acd hC2 ca (.inl rfl);clear o;have o:=bq;clear bq;have dc:=bl o;refine gS (AbO u (gS (AbM QS rfl (gS (Za (i:=6) (v:= .bool (false)) rfl rfl o (AcP rfl) UV rfl rfl fun cb br cc dd=> ?_)))));have hC2:Chg (fun i=>i=H.g) z cb:=Acd hC2 cc (.inl rfl);clear o;have o:=br;clear br;have de:=bl o;refine Gm rfl ?_;have hCt:=(Acj hhE17:Chg (fun i=>i=H.g) w _).trans hC2 (fun i e=> .inl e);have hTf:=t.crashed (l:=fs) bs.size hCt o (hma17.chg hC2 (fun e=>hnag e)) (hmb17.chg hC2 (fun e=>hgnb e.symm)) hnabn hnaw hnbw (hfi17.chg hC2 (fun k hk=>⟨fun e=>BD (Bp (hfi17.at_ k hk).blk) htd17 (by decide) e,fun i hi e=>BD (EW (hfi17.at_ k hk).row hi) htd17 (by decide) e⟩));exact⟨_,rfl,hTf⟩
structure DBd (n : Nat) (D : Al) : Prop where
 quota:D.quota<=1073741824
 refused:D.refused<=n
 arm:D.arm<=9223372036854775807
 acts:D.kept.length+D.acts.length<=n
 now:D.now.length<=n
 files:∀x∈D.files,x.1.length<=300*n
theorem DBd.file{n:Nat}{D:Al}(h:DBd n D)(k:Nat):(Aq D k).1.length<=300*n:=by
 by_cases hk:k<D.files.length
 ·exact h.files _ (Mi hk)
 ·unfold Aq;rw[AcL,Ad8 (by omega)];exact AcZ _
theorem Q4{l:List Nat}{m:Nat}(h:∀x∈l,x<=m):l.sum<=l.length*m:=by
 induction l with
 | nil=>simp
 | cons a r ih=>
  have h1:=h a AdT;have h2:=ih fun x hx=>h x (AdR _ hx);rw[List.sum_cons,AcV,Nat.succ_mul];omega
theorem DBd.used{n:Nat}{D:Al}(h:DBd n D):usedD D<=n*(300*n):=by
 unfold usedD;have h1:=Q4 (l:=D.now.map fun e=>(Aq D e.2).1.length) (m:=300*n) fun x hx=>by
  obtain⟨e,_,rfl⟩:=AdC.1 hx;exact h.file e.2
 rw[Ad5]at h1;exact AcG h1 (Nat.mul_le_mul_right _ h.now)
theorem DBd.lt{n:Nat}{D:Al}(h:DBd n D)(hn:n<=100000):EB D:=by
 have h1:=h.used;have h2:n*(300*n)<=100000*(300*100000):=Nat.mul_le_mul hn (AfO _ hn);have h3:=h.acts;have h4:=h.now;have h5:=h.refused;have h6:=h.arm;exact⟨h.quota,by omega,by omega,by omega,by omega,by omega,by omega,fun x hx=>by have:=h.files x hx;omega⟩
theorem DBd.mono{n m:Nat}{D:Al}(h:DBd n D)(hn:n<=m):DBd m D:=
 ⟨h.quota,AcG h.refused hn,h.arm,AcG h.acts hn,AcG h.now hn,fun x hx=>AcG (h.files x hx) (AfO _ hn)⟩
theorem DBd.new{q:Nat}(hq:q<=1073741824):DBd 0 (Dy q):=⟨hq,AcI _,AcZ _,AcI _,AcI _,fun x h=>by cases h⟩
theorem DBd.armed{n:Nat}{D:Al}(h:DBd n D):DBd n (B0 D).1:=by
 unfold B0;split
 ·exact h
 ·have:=h.arm;exact⟨h.quota,h.refused,by show D.arm-1<=_;omega,h.acts,h.now,h.files⟩
theorem DBd.turned{n:Nat}{D:Al}(h:DBd n D)(a:BQ):DBd (n+1) (turnedD D a):=by
 have h1:=NZ D.now a;have h2:=h.acts;have h3:=h.now;refine⟨h.quota,AgI h.refused,h.arm,?_,?_,fun x hx=>AcG (h.files x hx) (AfO _ (Agr n))⟩
 ·show D.kept.length+(D.acts++ [a]).length<=n+1;rw[AcJ,Adh];omega
 ·show(turnD D.now a).length<=n+1;omega
theorem DBd.did{n:Nat}{D:Al}(h:DBd n D){f:Al->Al}(hf:∀E,DBd n E->DBd (n+1) (f E)):DBd (n+1) (Dx D f).1:=by
 unfold Dx;split
 ·exact h.armed.mono (Agr n)
 ·exact hf _ h.armed
theorem DBd.sync{n:Nat}{D:Al}(h:DBd n D)(s:Aib):DBd (n+1) (Ch D s).1:=by
 unfold Ch;split
 ·exact h.mono (Agr n)
 ·rename_i k _
  refine h.did fun E hE=>⟨hE.quota,AgI hE.refused,hE.arm,?_,AgI hE.now,fun x hx=> ?_⟩
  ·have:=hE.now;show E.now.length+0<=_;omega
  ·rcases Afa hx with hx | rfl
   ·have:=hE.files x hx;omega
   ·have:=hE.file k;show(Aq E k).1.length<=_;omega
theorem DBd.move{n:Nat}{D:Al}(h:DBd n D)(s t:Aib):DBd (n+1) (Dh D s t).1:=by
 unfold Dh;split
 ·exact h.mono (Agr n)
 ·exact h.did fun E hE=>hE.turned _
theorem DBd.drop{n:Nat}{D:Al}(h:DBd n D)(s:Aib):DBd (n+1) (BF D s).1:=by
 unfold BF;split
 ·exact h.mono (Agr n)
 ·exact h.did fun E hE=>hE.turned _
theorem DBd.crash{n:Nat}{D:Al}(h:DBd n D)(l:List Int):DBd n (Bo D l):=by
 have h1:=N7 D l;have h2:=h.acts;have h3:(CX (AG D l)).length=(AG D l).length:=by unfold CX;rw[AfV]
 refine⟨h.quota,h.refused,AcZ _,?_,?_,fun x hx=> ?_⟩
 ·show(CX (AG D l)).length+0<=n;omega
 ·show(CX (AG D l)).length<=n;omega
 ·obtain⟨i,hi,rfl⟩:=AfR.1 hx;have h4:=h.file ((AG D l)[i]'hi).2;unfold Fb;simp only[Ac4];omega
section
variable {base : Nat} {w w' wb : AcE} {g : Nat} {H H' : Dk} {D D' : Al}
theorem DkS.low(h:DkS base w H D){b' :Nat}(hb:b' <=base):DkS b' w H D:=by
 obtain⟨vs,hv⟩:=h.acts;exact⟨h.blk,h.now,h.kept,h.ne,⟨vs,AI hv.row hb,hv.len,hv.at_⟩,h.files.low hb,h.ok,⟨AcG hb h.lo.1,AcG hb h.lo.2.1,AcG hb h.lo.2.2⟩⟩
structure DkG (wb w : AcE) (g : Nat) (H : Dk) (D : Al) : Prop where
 ext:Ext wb w
 st:DkS wb.heap.size w H D
 hg:H.g=g
theorem DkG.keep(h:DkG wb w g H D)(k:Ext w w'):DkG wb w' g H D:=⟨h.ext.trans k,h.st.keep k,h.hg⟩
theorem DkG.step(h:DkG wb w g H D)(k:DkT wb.heap.size w H D w' H' D'):DkG wb w' g H' D' :=⟨k.chg.ext h.ext (fun i q=>(h.st.foot q).2.2),k.st,k.g.trans h.hg⟩
theorem DkG.box(h:DkG wb w g H D)(hc:Chg (BS H D.files.length) w w'){b:Nat}{cs:Array AcD}{t:AcK}{fr:Nat × Nat}(hb:w.heap[b]? =some (.cells cs t fr))(h1:t≠82)(h2:t≠120)(h3:t≠5)(h4:t≠113):w'.heap[b]? =some (.cells cs t fr):=
 (hc.blk b (bl hb) (h.st.offT hb h1 h2 h3 h4)).trans hb
abbrev Acz:=@DkG.box
theorem DkG.read(h:DkG wb w g H D)(s:Aib)(hL:EB D):
  Calls AcF 30 #[PQ g 0,St s] w fun e w' =>∃v,e = .returned (.tuple #[v,NI (Bk D s).2])/\w'.ownsRow w.heap.size 5 1 v (Bk D s).1.length (Lib.byteCells (Bk D s).1)/\Ext w w' :=by
 rw[<-h.hg];exact WO wb w H D h.st s hL
theorem DkG.refused(h:DkG wb w g H D):
  Calls AcF 12 #[PQ g 0] w fun e w' =>e = .returned (NI D.refused)/\Ext w w' :=by
 rw[<-h.hg];exact Pb _ w H D h.st
theorem Wc(wb w:AcE)(hE:Ext wb w)(q:Nat)(hq:q<=1073741824):
  Calls AcF 9 #[NI q] w fun e w' =>∃g H,e = .returned (PQ g 0)/\DkG wb w' g H (Dy q)/\Ext w w' :=
 (XU w q hq).mono fun e w' ⟨H,he,hS,hx⟩=>⟨H.g,H,he,⟨hE.trans hx,hS.low hE.size,rfl⟩,hx⟩
end
theorem DkG.og{wb w w' :AcE}{g:Nat}{H:Dk}{D:Al}(h:DkG wb w g H D)(hc:Chg (BS H D.files.length) w w'){α:Type}{b k:Nat}{t:AcK}{enc:α->List AcD}{v:AcD}{l:List α}(hr:OG b t k enc w v l)(h1:t≠82)(h2:t≠120)(h3:t≠5)(h4:t≠113):OG b t k enc w' v l:=by
 refine⟨hr.1,C0 hc hr.2 fun i hi q=> ?_⟩;have ht:=EW hr.2 hi;rcases(h.st.foot q).1 with ⟨es,c,e⟩ | ⟨cs,t',fr,e,ht'⟩
 ·unfold Cz at ht;rw[e]at ht;cases ht
 ·have:=Bp e;rw[this]at ht;have ht:t' =t:=by simpa using ht
  subst ht;rcases ht' with q | q | q | q
  ·exact h1 q
  ·exact h2 q
  ·exact h3 q
  ·exact h4 q
def InjD(l:Bc):Prop:=l.Pairwise fun a b=>a.2≠b.2
theorem InjD.eq{l:Bc}(h:InjD l){e f:Aib × Nat}(he:e∈l)(hf:f∈l)(q:e.2=f.2):e=f:=by
 obtain⟨i,hi,rfl⟩:=AdM.1 he;obtain⟨j,hj,rfl⟩:=AdM.1 hf;rcases Nat.lt_trichotomy i j with hij | rfl | hij
 ·exact absurd q (AeK.1 h i j hi hj hij)
 ·rfl
 ·exact absurd q.symm (AeK.1 h j i hj hi hij)
theorem InjD.wo{l:Bc}(h:InjD l)(s:Aib):InjD (Hq l s):=Aht AhM h
theorem InjD.ins{l:Bc}(h:InjD l)(s:Aib){k:Nat}(hk:∀e∈l,e.2≠k):InjD (Gv l s k):=by
 unfold Gv InjD;rw[AfH];refine⟨h.sublist (Afu _),AeZ.2 ⟨fun e he=>(hk e ((Afv _).subset he)).symm,h.sublist (Afv _)⟩,fun a ha b hb=> ?_⟩;rcases Adl.1 hb with rfl | hb
 ·exact hk a ((Afu _).subset ha)
 ·have h2:(l.takeWhile (fun e=>Adg e.1 s)++l.dropWhile (fun e=>Adg e.1 s)).Pairwise fun a b=>a.2≠b.2:=by rw[Afi];exact h
  exact(AfH.1 h2).2.2 a ha b hb
theorem InjD.turn{l:Bc}(h:InjD l)(a:BQ)(hk:a.to.length≠0->∀e∈l,e.2=a.file->e.1=a.frm):InjD (turnD l a):=by
 unfold turnD;split
 ·exact h.wo _
 ·rename_i hn
  refine((h.wo _).wo _).ins _ fun e he q=> ?_;have h1:=IT he;have h2:=hk hn e (IT h1) q;have h3:=(List.mem_filter.1 h1).2;simp[h2]at h3
theorem InjD.num(l:Bc):InjD (CX l):=by
 unfold InjD CX;rw[AeK];intro i j hi hj hij;rw[AhP,AhP];exact Nat.ne_of_lt hij
theorem InjD.add{D:Al}(h:InjD D.now)(hok:DOk D)(s b:Aib):InjD (Bg D s b).now:=by
 unfold Bg;split
 ·exact h
 ·exact h.turn _ fun _ e he q=>absurd (hok.now.num e he) (by rw[q];exact AgA _)
theorem IX{D:Al}{s t:Aib}(hd:D.down=false)(hs:Bn s=true)(ht:Bn t=true):Cy D s t=0:=by
 unfold Cy;rw[if_neg (by rw[hd];decide),if_pos ⟨hs,ht⟩]
theorem G0{l:List (Aib × Nat)}{k:Nat}{x:Aib × Nat}(h:k<l.length):(l.set k x).getD k ([],0)=x:=by
 rw[AcL,Aho h];rfl
theorem JM{l:List (Aib × Nat)}{k j:Nat}{x:Aib × Nat}(h:k≠j):(l.set k x).getD j ([],0)=l.getD j ([],0):=by
 rw[AcL,AhB h,<-AcL]
theorem PN(D:Al)(s b:Aib):(Bg D s b).arm=D.arm/\(Bg D s b).down=D.down:=by
 unfold Bg;split <;> exact⟨rfl,rfl⟩
end Go.Proofs.YtbbbblinjomajaaGreatDoor
