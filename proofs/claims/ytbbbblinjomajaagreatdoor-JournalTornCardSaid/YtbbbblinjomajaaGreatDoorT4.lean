/- Part 4 of what stands behind these statements: laws and walks of the functions that are reached. Conditions: those that each theorem names. -/
import Derived.Test.YtbbbblinjomajaaGreatDoorT3
set_option linter.unusedVariables false
set_option linter.unusedSimpArgs false
namespace Go.Proofs.YtbbbblinjomajaaGreatDoor
open _root_.Go.Op renaming bytesLess->Ad3
open _root_.List renaming le_antisymm->AhF,mem_cons_self->AeG,mem_cons_of_mem->AeF,pairwise_cons->AfM,mem_cons->Ad5,cons_append->Ad1,filter_cons_of_neg->AhN,filter_cons_of_pos->AhO,takeWhile_append_dropWhile->Af6,filter_sublist->AiB,dropWhile_cons->AiC,takeWhile_cons->Af5,pairwise_append->Agv,takeWhile_sublist->Agi,dropWhile_sublist->Agj,length_append->Adx,length_cons->AdJ,mem_append->Aed,map_cons->AdK,mem_map_of_mem->AfF,mem_map->Aeq,perm_ext_iff_of_nodup->Ahn,length_map->AeU,size_toArray->Ad6,map_map->AhH,map_congr_left->AiD,filter_eq_self->Ag2,eq_nil_of_length_eq_zero->Aep,getD_eq_getElem?_getD->Adz,getElem?_eq_getElem->AdE,getElem_mem->Ae3,getElem?_eq_none->AeX,mem_singleton->Aeb,length_set->AfC,mem_or_eq_of_mem_set->AfX,length_take->AdS,mem_mapIdx->AgF,take_sublist->AgM,length_mapIdx->AgI,length_singleton->Ad4,getElem?_append_right->AeC,getElem?_append_left->AeP,getElem?_set_self->Aic,getElem?_set_ne->Aiq,flatMap_cons->Aen,all_eq_true->Ael,take_succ_eq_append_getElem->AeW,all_append->AhW,map_toArray->AdH,map_nil->AdO,all_cons->Ait,toArray->Ad2,nil_append->Ad9,mem_iff_getElem->AeB,pairwise_iff_getElem->Afy,drop_eq_nil_of_le->Aie,append_toArray->Aei,getElem_mapIdx->AiE
open _root_.List.Pairwise renaming sublist->Aih,of_map->Agw,map->Ahs
open _root_.Bool renaming eq_false_iff->Ahr,false_eq_true->Ae1,and_eq_true->AdX
open _root_.Int renaming emod->AfT,toNat_natCast->AdV,tmod->Af4
open _root_.Go renaming MapEntry->AfS,Program->AdM,TypeId->Ady,Value->Adr,World->Ads,Operand->AdC,binOp->Aea
open _root_.Nat renaming le_refl->Adw,lt_of_lt_of_le->AeS,zero_le->AdN,le_trans->Adu,sub_self->AhJ,zero_add->Afa,add_mul->AeQ,not_lt_zero->Aex,le_of_ble_eq_true->AdD,min_eq_left->Agc,lt_irrefl->Ahm,mul_le_mul_left->AgC,le_succ_of_le->Ahu,le_succ->Ahd
open _root_.Array renaming getElem?_eq_some_iff->Aef,toList_filter->Ag3,filter->AiN,getElem?_setIfInBounds->Afo
open _root_.Prod renaming fst->Aet
open _root_.Go.Sem renaming run_bind->AdB,run_pure->AdF,run->AgU
open _root_.Go.Result renaming andThen_ok->AdA,andThen->Aek
open _root_.Go.RowKit.Below renaming refl->Aeo
open _root_.Go.Instr renaming next->Agt,buildSlice->Ad0,build->Aew
open _root_.Go.World.grownBy renaming refl->AdZ
open _root_.Option.some renaming inj->AdY
open _root_.Go.World renaming ownsRow_nil->Ae7,block_lt_of_cell?->AeD,ownsRow->Aiw
open _root_.Go.Proofs.Tryz renaming prog->Adt,underlying4->AgQ,isAgg4->AiZ,sizeOf4->AiO,zeroValue4->Ah1,underlying0->AhL,isAgg0->Ai0,sizeOf0->AiP,zeroValue0->Ah2,underlying9->AgR,isAgg9->Aid,sizeOf9->AhM,zeroValue9->AgZ,underlying114->Ahg,isAgg114->Aiv,sizeOf114->Aii,zeroValue114->Aht
open _root_.Go.Value renaming slice->AdI,ownBlock->Aec,int->AfL
open Go.RowKit
abbrev Bh:=List (Ai1 × Nat)
def lookD:Bh->Ai1->Option Nat
 | [],_=>none
 | e :: r,s=>if e.1=s then some e.2 else lookD r s
theorem Cz(e:Ai1 × Nat)(r:Bh)(s:Ai1):lookD (e :: r) s=if e.1=s then some e.2 else lookD r s:=rfl
def HT(l:Bh)(s:Ai1):Bh:=l.filter fun e=> !decide (e.1=s)
def GQ(l:Bh)(s:Ai1)(k:Nat):Bh:=l.takeWhile (fun e=>Ad3 e.1 s)++(s,k) :: l.dropWhile (fun e=>Ad3 e.1 s)
structure B5 where
 frm:Ai1
 to:Ai1
 file:Nat
def turnD(l:Bh)(a:B5):Bh:=if a.to.length=0 then HT l a.frm else GQ (HT (HT l a.frm) a.to) a.to a.file
def DH(l:Bh):Prop:=l.Pairwise fun a b=>Ad3 a.1 b.1=true
theorem OD{a b c:Ai1}(h:Ad3 a b=true)(k:Ad3 b c=true):Ad3 a c=true:=by
 rw[bytesLess_eq,decide_eq_true_eq]at *;exact List.lt_trans h k
theorem Ga(a:Ai1):Ad3 a a=false:=by
 rw[bytesLess_eq];exact decide_eq_false (List.lt_irrefl a)
theorem Vg{a b:Ai1}(h:Ad3 a b=false)(hne:b≠a):Ad3 b a=true:=by
 rw[bytesLess_eq,decide_eq_false_iff_not]at h;rw[bytesLess_eq,decide_eq_true_eq];have h:b<=a:=h;rcases List.le_total a b with h2 | h2
 ·exact absurd (AhF h h2) hne
 ·exact Classical.byContradiction fun hn=>hne (AhF h hn)
theorem Gb{l:Bh}{s:Ai1}:lookD l s=none↔∀e∈l,e.1≠s:=by
 induction l with
 | nil=>simp[lookD]
 | cons e r ih=>
  rw[Cz];by_cases h:e.1=s
  ·simp[h]
  ·simp[h,ih]
theorem E5{l:Bh}{s:Ai1}{k:Nat}(h:lookD l s=some k):(s,k)∈l:=by
 induction l with
 | nil=>cases h
 | cons e r ih=>
  rw[Cz]at h;split at h
  ·rename_i he
   cases h;rw[<-he];exact AeG
  ·exact AeF _ (ih h)
theorem HU{l:Bh}(hs:DH l){e:Ai1 × Nat}(h:e∈l):lookD l e.1=some e.2:=by
 induction l with
 | nil=>cases h
 | cons x r ih=>
  obtain⟨h1,h2⟩:=AfM.1 hs;rw[Cz];rcases Ad5.1 h with rfl | h
  ·exact if_pos rfl
  ·have:=h1 e h;rw[if_neg (fun he=>by rw[he,Ga]at this;cases this)];exact ih h2 h
theorem Iu{l r:Bh}{s:Ai1}:lookD (l++r) s=(lookD l s).or (lookD r s):=by
 induction l with
 | nil=>rfl
 | cons e l ih=>
  rw[Ad1,Cz,Cz];by_cases h:e.1=s
  ·rw[if_pos h,if_pos h];rfl
  ·rw[if_neg h,if_neg h];exact ih
theorem JW(l:Bh)(s t:Ai1):lookD (HT l s) t=if t=s then none else lookD l t:=by
 induction l with
 | nil=>simp[HT,lookD]
 | cons e r ih=>
  unfold HT at ih ⊢;by_cases h:e.1=s
  ·rw[AhN (by simp[h]),ih];split
   ·rfl
   ·rename_i ht
    rw[Cz,if_neg (fun he=>ht (he.symm.trans h))]
  ·rw[AhO (by simp[h])];rw[Cz,Cz];by_cases he:e.1=t
   ·rw[if_pos he,if_pos he,if_neg (fun ht=>h (he.trans ht))]
   ·rw[if_neg he,if_neg he];exact ih
theorem Vh{l:Bh}{s:Ai1}(k:Nat)(h:lookD l s=none)(t:Ai1):lookD (GQ l s k) t=if t=s then some k else lookD l t:=by
 have hl:l=l.takeWhile (fun e=>Ad3 e.1 s)++l.dropWhile (fun e=>Ad3 e.1 s):=(Af6).symm;have hn:=h;rw[hl,Iu]at hn;unfold GQ;rw[Iu];rw[Cz];simp only;by_cases ht:t=s
 ·subst ht;rw[if_pos rfl,if_pos rfl];cases h2:lookD (l.takeWhile fun e=>Ad3 e.1 t) t with
  | none=>rfl
  | some x=>rw[h2]at hn;cases hn
 ·rw[if_neg (fun e=>ht e.symm),if_neg ht]
  conv=>rhs;rw[hl,Iu]
theorem Mc{l:Bh}(h:DH l)(s:Ai1):DH (HT l s):=Aih (AiB) h
theorem Xa{l:Bh}{s:Ai1}(hs:DH l)(h:lookD l s=none):∀e∈l.dropWhile (fun e=>Ad3 e.1 s),Ad3 s e.1=true:=by
 induction l with
 | nil=>intro e he;cases he
 | cons x r ih=>
  obtain⟨h1,h2⟩:=AfM.1 hs;have h3:=Gb.1 h;intro e he;by_cases hx:Ad3 x.1 s=true
  ·rw[AiC,if_pos hx]at he;exact ih h2 (Gb.2 fun y hy=>h3 y (AeF _ hy)) e he
  ·rw[AiC,if_neg hx]at he;have hxs:=Vg (Ahr.2 hx) (fun q=>h3 x AeG q.symm);rcases Ad5.1 he with rfl | he
   ·exact hxs
   ·exact OD hxs (h1 e he)
theorem Xb{l:Bh}{s:Ai1}:∀e∈l.takeWhile (fun e=>Ad3 e.1 s),Ad3 e.1 s=true:=by
 induction l with
 | nil=>intro e he;cases he
 | cons x r ih=>
  intro e he;by_cases hx:Ad3 x.1 s=true
  ·rw[Af5,if_pos hx]at he;rcases Ad5.1 he with rfl | he
   ·exact hx
   ·exact ih e he
  ·rw[Af5,if_neg hx]at he;cases he
theorem Vi{l:Bh}{s:Ai1}(k:Nat)(hs:DH l)(h:lookD l s=none):DH (GQ l s k):=by
 unfold GQ DH;have h1:=Xa hs h;have h2:=Xb (l:=l) (s:=s);rw[Agv];refine⟨hs.sublist (Agi _),AfM.2 ⟨fun e he=>h1 e he,hs.sublist (Agj _)⟩,fun a ha b hb=> ?_⟩;rcases Ad5.1 hb with rfl | hb
 ·exact h2 a ha
 ·exact OD (h2 a ha) (h1 b hb)
theorem OE(l:Bh)(a b:Ai1):lookD (HT (HT l a) b) b=none:=by rw[JW,if_pos rfl]
theorem look_turn(l:Bh)(a:B5)(t:Ai1):lookD (turnD l a) t=if a.to.length=0 then(if t=a.frm then none else lookD l t)else if t=a.to then some a.file else if t=a.frm then none else lookD l t:=by
 unfold turnD;by_cases h:a.to.length=0
 ·rw[if_pos h,if_pos h,JW]
 ·rw[if_neg h,if_neg h,Vh _ (OE _ _ _)];by_cases ht:t=a.to
  ·rw[if_pos ht,if_pos ht]
  ·rw[if_neg ht,if_neg ht,JW,if_neg ht,JW]
theorem Tz{l:Bh}(h:DH l)(a:B5):DH (turnD l a):=by
 unfold turnD;split
 ·exact Mc h _
 ·exact Vi _ (Mc (Mc h _) _) (OE _ _ _)
theorem TA(l:Bh)(s:Ai1):(HT l s).length<=l.length:=List.length_filter_le _ _
theorem Xc(l:Bh)(s:Ai1)(k:Nat):(GQ l s k).length=l.length+1:=by
 unfold GQ;have h:(l.takeWhile (fun e=>Ad3 e.1 s)++l.dropWhile (fun e=>Ad3 e.1 s)).length=l.length:=by rw[Af6]
 rw[Adx]at h;rw[Adx,AdJ];omega
theorem OF(l:Bh)(a:B5):(turnD l a).length<=l.length+1:=by
 have h1:=TA l a.frm;have h2:=TA (HT l a.frm) a.to;unfold turnD;split
 ·omega
 ·rw[Xc];omega
theorem Jt{l:Bh}{s:Ai1}{e:Ai1 × Nat}(h:e∈HT l s):e∈l:=(List.mem_filter.1 h).1
theorem Xd{l:Bh}{s:Ai1}{k:Nat}{e:Ai1 × Nat}(h:e∈GQ l s k):e∈l\/e=(s,k):=by
 unfold GQ at h;rcases Aed.1 h with h | h
 ·exact .inl ((Agi _).subset h)
 ·rcases Ad5.1 h with h | h
  ·exact .inr h
  ·exact .inl ((Agj _).subset h)
theorem GR{l:Bh}{a:B5}{e:Ai1 × Nat}(h:e∈turnD l a):e∈l\/(a.to.length≠0/\e=(a.to,a.file)):=by
 unfold turnD at h;split at h
 ·exact .inl (Jt h)
 ·rename_i hn
  rcases Xd h with h | h
  ·exact .inl (Jt (Jt h))
  ·exact .inr ⟨hn,h⟩
structure Ak where
 quota:Nat
 files:List (Ai1 × Nat)
 now:Bh
 kept:Bh
 acts:List B5
 refused:Nat
 arm:Nat
 down:Bool
def Bq(s:Ai1):Bool:=decide (1<=s.length)&&decide (s.length<=80)
def CU(d:Ak)(a b:Ai1):Nat:=if d.down=true then 9 else if Bq a=true/\Bq b=true then 0 else 10
def Ar(d:Ak)(k:Nat):Ai1 × Nat:=d.files.getD k ([],0)
def usedD(d:Ak):Nat:=(d.now.map fun e=>(Ar d e.2).1.length).sum
def Cd(d:Ak):Ak × Bool:=if d.arm=0 then(d,false)else({ d with arm:=d.arm-1,down:=decide (d.arm-1=0) },decide (d.arm-1=0))
def turnedD(d:Ak)(a:B5):Ak:= { d with now:=turnD d.now a,acts:=d.acts++ [a] }
def Bj(d:Ak)(s b:Ai1):Ak:=
 match lookD d.now s with
 | some k=> { d with files:=d.files.set k ((Ar d k).1++b,(Ar d k).2) }
 | none=> { turnedD d ⟨[],s,d.files.length⟩with files:=d.files++ [(b,0)] }
def BU(d:Ak)(s b:Ai1):Ak × Nat:=
 if CU d s s≠0 then(d,CU d s s)
 else if d.quota<usedD d+b.length then({ d with refused:=d.refused+1 },8)
 else if(Cd d).2=true then((Cd d).1,9)else(Bj (Cd d).1 s b,0)
def Fu(d:Ak)(a b:Ai1):Except Nat Nat:=if CU d a b≠0 then .error (CU d a b)else match lookD d.now a with | some k=> .ok k | none=> .error 4
def DA(d:Ak)(f:Ak->Ak):Ak × Nat:=if(Cd d).2=true then((Cd d).1,9)else(f (Cd d).1,0)
def Ce(d:Ak)(s:Ai1):Ak × Nat:=
 match Fu d s s with
 | .error e=>(d,e)
 | .ok k=>DA d fun d=> { d with files:=d.files.set k ((Ar d k).1,(Ar d k).1.length),kept:=d.now,acts:= [] }
def Df(d:Ak)(s t:Ai1):Ak × Nat:=
 match Fu d s t with
 | .error e=>(d,e)
 | .ok k=>DA d fun d=>turnedD d ⟨s,t,k⟩
def Bt(d:Ak)(s:Ai1):Ak × Nat:=
 match Fu d s s with
 | .error e=>(d,e)
 | .ok k=>DA d fun d=>turnedD d ⟨s,[],k⟩
def Bo(d:Ak)(s:Ai1):Ai1 × Nat:=
 match Fu d s s with
 | .error e=>([],e)
 | .ok k=>((Ar d k).1,0)
def BK(l:List Int)(i n:Nat):Nat:=if i<l.length then(AfT (l.getD i 0) ((n:Nat):Int)).toNat else 0
def AM(d:Ak)(l:List Int):Bh:=(d.acts.take (BK l 0 (d.acts.length+1))).foldl turnD d.kept
def Fv(d:Ak)(l:List Int)(i:Nat)(k:Nat):Ai1 × Nat:=
 let n:=(Ar d k).2+BK l (i+1) ((Ar d k).1.length-(Ar d k).2+1)
 ((Ar d k).1.take n,n)
def Dg(l:Bh):Bh:=l.mapIdx fun i e=>(e.1,i)
def A8(d:Ak)(l:List Int):Ak:=
 { quota:=d.quota,files:=(AM d l).mapIdx (fun i e=>Fv d l i e.2),now:=Dg (AM d l),kept:=Dg (AM d l),acts:= [],refused:=d.refused,arm:=0,down:=false }
def jrN:Bs:= [106,111,117,114,110,97,108]
def nwN:Bs:= [106,111,117,114,110,97,108,46,110,101,119]
structure Jn where
 refs:Au
 size:Nat
 torn:Bool
 lost:Bool
inductive JA where
 | clear
 | app (s b:Bs)
 | sync (s:Bs)
 | move
def BL(D:Ak):JA->Ak × Nat
 | .clear=>if(Bt D nwN).2=4 then((Bt D nwN).1,0)else Bt D nwN
 | .app s b=>BU D s b
 | .sync s=>Ce D s
 | .move=>Df D nwN jrN
def AP(D:Ak):List JA->Ak × Nat
 | []=>(D,0)
 | a :: r=>if(BL D a).2≠0 then BL D a else AP (BL D a).1 r
theorem Ez(D:Ak)(a:JA)(r:List JA):AP D (a :: r)=if(BL D a).2≠0 then BL D a else AP (BL D a).1 r:=rfl
def Gu(J:Jn)(e:Nat):Jn:=⟨J.refs,J.size,J.torn,J.lost||decide (e=9)⟩
def wholeB(r:Au):Bs:=recB 83 (Ee r)
def Bl(D:Ak)(r:Au):Ak × Nat:=AP D [.clear, .app nwN (wholeB r)]
def DI(D:Ak):Ak × Nat:=AP D [.sync nwN, .move, .sync jrN]
def LE(D:Ak)(J:Jn):Ak × Jn × Nat:=if(AP D [.clear]).2≠0 then((AP D [.clear]).1,Gu J (AP D [.clear]).2,(AP D [.clear]).2)else((AP D [.clear]).1,J,8)
def OH(D:Ak)(J:Jn):Ak × Jn × Nat:=if(DI D).2≠0 then((DI D).1,Gu J (DI D).2,(DI D).2)else((DI D).1,⟨J.refs,(wholeB J.refs).length,false,J.lost⟩,0)
def AH(D:Ak)(J:Jn):Ak × Jn × Nat:=
 if(Bl D J.refs).2=8 then LE (Bl D J.refs).1 J
 else if(Bl D J.refs).2≠0 then((Bl D J.refs).1,Gu J (Bl D J.refs).2,(Bl D J.refs).2)
 else OH (Bl D J.refs).1 J
def Eg(D:Ak)(b:Bs):Ak × Nat:=AP D [.app jrN b, .sync jrN]
def Fw(D:Ak)(J:Jn)(r:Au)(b:Bs):Ak × Jn × Nat:=if(Eg D b).2≠0 then((Eg D b).1,Gu J (Eg D b).2,(Eg D b).2)else((Eg D b).1,⟨r,J.size+b.length,J.torn,J.lost⟩,0)
noncomputable def Bw(D:Ak)(J:Jn)(l:List AC)(note:Bs):Ak × Jn × Nat:=
 if J.lost=true then(D,J,19)
 else if(Ag J.refs l note).1≠0 then(D,J,(Ag J.refs l note).1)
 else if J.torn=true\/8192<J.size then
  (if(AH D J).2.2≠0/\(J.torn=true\/(AH D J).2.2≠8)then AH D J
   else Fw (AH D J).1 (AH D J).2.1 (Ag J.refs l note).2 (recB 84 (tranB l note)))
 else Fw D J (Ag J.refs l note).2 (recB 84 (tranB l note))
def Fx(D:Ak)(J:Jn):Ak × Jn × Nat:=if J.lost=true then(D,J,19)else AH D J
noncomputable def C0(D:Ak)(b:Bs):Ak × Option Jn × Nat:=
 match Ca b with
 | none=>(D,none,6)
 | some x=>if x.2=true then(if(AH D ⟨x.1,b.length,true,false⟩).2.2≠0/\(AH D ⟨x.1,b.length,true,false⟩).2.2≠8 then((AH D ⟨x.1,b.length,true,false⟩).1,none,(AH D ⟨x.1,b.length,true,false⟩).2.2)else((AH D ⟨x.1,b.length,true,false⟩).1,some (AH D ⟨x.1,b.length,true,false⟩).2.1,0))
  else(D,some ⟨x.1,b.length,false,false⟩,0)
noncomputable def By(D:Ak):Ak × Option Jn × Nat:=
 if(AP D [.clear]).2≠0 then((AP D [.clear]).1,none,(AP D [.clear]).2)
 else if(Bo (AP D [.clear]).1 jrN).2≠0/\(Bo (AP D [.clear]).1 jrN).2≠4 then((AP D [.clear]).1,none,(Bo (AP D [.clear]).1 jrN).2)
 else C0 (AP D [.clear]).1 (Bo (AP D [.clear]).1 jrN).1
open Go.WideElems (Fit rd rg rg_of)
open Go.WideShapes (sorted_perm)
open Go.MapKept Go.WideShapes
theorem Zb{es:List AfS}:(∀e∈es,∃a,e.key=St a)->∃ks:List Ai1,es.map (·.key)=ks.map St:=by
 induction es with
 | nil=>intro _;exact⟨[],rfl⟩
 | cons e r ih=>
  intro h;obtain⟨a,ha⟩:=h e AeG;obtain⟨ks,hk⟩:=ih fun x hx=>h x (AeF _ hx);exact⟨a :: ks,by rw[AdK,AdK,ha,hk]⟩
theorem Eb{a b:Ai1}(h:St a=St b):a=b:=by simpa using h
theorem Vj{P:AdM}{k:Ady}(hk:P.underlying k=some .string){a:Ai1}(ha:a.length<=maxLen):keyOf P k (St a)=some (.string a):=by
 simp[keyOf,hk,mapKey];exact ha
abbrev Iv(_:Adr):Option (DataW Unit × List MemPlace):=some (.nil,[])
theorem MapF.owns{β:Type}{P:AdM}{k:Ady}(hk:P.underlying k=some .string){ev:β->Adr}{D:Ai1->Prop}(hD:∀a,D a->a.length<=maxLen){w:Ads}{b:Nat}{G:Ai1->Option β}(h:MapF St ev D w b G){keys:List Ai1}(hn:keys.Nodup)(hG:∀s,(G s).isSome=true↔s∈keys)(hmax:keys.length<=maxLen):
  ∃D0:DataW Unit,w.ownsMap P k Iv b keys.length D0/\(strKeys D0).Perm keys/\Maps.size D0=keys.length:=by
 obtain⟨es,c,hb,H,hS⟩:=h;obtain⟨ks,hks⟩:=Zb (es:=es) fun e he=>by obtain⟨a,y,-,h2,-,-⟩:=H.ent e he;exact⟨a,h2⟩
 have hnd:ks.Nodup:=by
  have h:=H.keys;rw[hks]at h;exact Agw St (fun a b hne e=>hne (by rw[e])) h
 have hmem:∀s,s∈ks↔(G s).isSome=true:=fun s=>by
  constructor
  ·intro hs;have h1:St s∈es.map (·.key):=by rw[hks];exact AfF hs
   obtain⟨e,he,f⟩:=Aeq.1 h1;obtain⟨a,y,-,h2,-,h4⟩:=H.ent e he;obtain rfl:a=s:=Eb (h2.symm.trans f);rw[h4];rfl
  ·intro hs;obtain⟨y,hy⟩:=Option.isSome_iff_exists.1 hs;obtain⟨-,e,he,f⟩:=H.all s y hy;have h1:St s∈es.map (·.key):=Aeq.2 ⟨e,he,f⟩;rw[hks]at h1;obtain⟨a,ha,g⟩:=Aeq.1 h1
   rwa [<-Eb g]
 have hperm:ks.Perm keys:=(Ahn hnd hn).2 fun s=>(hmem s).trans (hG s);have hlen:es.length=keys.length:=by
  have h1:=congrArg List.length hks;rw[AeU,AeU]at h1;rw[h1,hperm.length_eq]
 have hrd:∀x∈es,∃a,x.key=St a/\rd P k Iv x=some (.string a, .nil):=fun x hx=>by
  obtain⟨a,y,ha,h2,-,-⟩:=H.ent x hx;exact⟨a,h2,by unfold Go.WideElems.rd;rw[h2,Vj hk (hD a ha)];rfl⟩
 have hF:Fit P k Iv es.toArray c:=⟨by rw[Ad6,hlen];exact hmax,hS,fun x hx=>by
  obtain⟨a,-,h2⟩:=hrd x (by simpa using hx);exact⟨_,h2⟩⟩
 refine⟨.map ((es.toArray.toList.map (rg P k Iv)).foldr DataW.insert []),⟨es.toArray,c,hb,hF,by rw[Ad6,hlen];exact Adw _,rfl⟩,?_,?_⟩
 ·have h1:(strKeys (.map ((es.toArray.toList.map (rg P k Iv)).foldr DataW.insert []))).Perm ((es.map (rg P k Iv)).map fun p=>strOf p.1):=(sorted_perm _).map _;refine h1.trans ?_;have h2:(es.map (rg P k Iv)).map (fun p=>strOf p.1)=(es.map (·.key)).map fun v=>match v with | .string s=>s.data.toList | _=> []:=by
   rw[AhH,AhH];refine AiD fun x hx=> ?_;obtain⟨a,h3,h4⟩:=hrd x hx;show strOf (rg P k Iv x).1=_;rw[rg_of h4];simp only[Function.comp,h3,strOf]
  rw[h2,hks,AhH];have h5:ks.map ((fun v:Adr=>match v with | .string s=>s.data.toList | _=> [])∘St)=ks:=by
   conv=>rhs;rw[<-List.map_id ks]
   exact AiD fun a _=>rfl
  rw[h5];exact hperm
 ·show((es.toArray.toList.map (rg P k Iv)).foldr DataW.insert []).length=_;rw[(sorted_perm _).length_eq,AeU,hlen]
section
variable {α β : Type} (ek : α -> Adr) (ev : β -> Adr)
def MIt(w:Ads)(g bm:Nat)(left:List (α × β)):Prop:=
 ∃es clock since seen c0,w.heap[g]? =some (.mapIter (some bm) since seen c0)/\w.heap[bm]? =some (.map es clock)/\MapKept.Stamped es clock/\(∀x∈es.toList,x.born<since)/\since<=c0/\since<=clock/\((leftOf es seen).toList.map fun e=>(e.key,e.val)).Perm (left.map fun p=>(ek p.1,ev p.2))
def Yx(w:Ads)(g bm:Nat)(a:α)(y:β):Prop:=
 ∃(es:Array AfS) (clock since:Nat) (seen:Array Nat) (e:AfS),w.heap[g]? =some (.mapIter (some bm) since (seen.push e.born) clock)/\w.heap[bm]? =some (.map es clock)/\(es.toList.map (·.born)).Nodup/\e∈es.toList/\e.key=ek a/\e.val=ev y
end
def AaE(w:Ads)(g:Nat):Nat:=match w.heap[g]? with
 | some (.mapIter (some bm) _ seen _)=>(match w.heap[bm]? with | some (.map es _)=>(leftOf es seen).size | _=>0)
 | _=>0
theorem Abk{α β:Type}{ek:α->Adr}{ev:β->Adr}{w:Ads}{g bm:Nat}{left:List (α × β)}(h:MIt ek ev w g bm left):AaE w g=left.length:=by
 obtain⟨es,clock,since,seen,c0,hg,hb,-,-,-,-,hp⟩:=h;have:=hp.length_eq;rw[AeU,AeU]at this;unfold AaE;rw[hg];simp only[hb];rw[<-this];simp
theorem MIt.lt{α β:Type}{ek:α->Adr}{ev:β->Adr}{w:Ads}{g bm:Nat}{left:List (α × β)}(h:MIt ek ev w g bm left):g<w.heap.size:=by
 obtain⟨es,clock,since,seen,c0,hg,-⟩:=h;exact(Aef.1 hg).1
theorem MU{e:AfS}:∀ {l:List AfS},(l.map (·.born)).Nodup->e∈l->l.Perm (e :: l.filter fun x=> !(x.born==e.born))
 | [],_,h=>by cases h
 | x :: l,hn,h=>by
  have hn' :=List.nodup_cons.1 hn;rcases Ad5.1 h with rfl | h
  ·have hf:l.filter (fun x=> !(x.born==e.born))=l:=Ag2.2 fun y hy=>by
    have:y.born≠e.born:=fun q=>hn'.1 (Aeq.2 ⟨y,hy,q⟩)
    simpa using this
   rw[AhN (by simp),hf]
  ·have hx:x.born≠e.born:=fun q=>hn'.1 (Aeq.2 ⟨e,h,q.symm⟩);rw[AhO (by simpa using hx)];exact((MU hn'.2 h).cons x).trans (List.Perm.swap _ _ _)
theorem TB(es:Array AfS)(seen:Array Nat)(b:Nat):(leftOf es (seen.push b)).toList=(leftOf es seen).toList.filter fun x=> !(x.born==b):=by
 unfold leftOf;simp only[Ag3,List.filter_filter];refine List.filter_congr fun x _=> ?_;rw[Bool.eq_iff_iff];simp[and_comm]
theorem Rs{es:Array AfS}{seen:Array Nat}(h:(es.toList.map (·.born)).Nodup):((leftOf es seen).toList.map (·.born)).Nodup:=by
 unfold leftOf;rw[Ag3];exact(List.filter_sublist.map _).nodup h
section
variable {P : AdM} {K : Adr -> Ads -> Prop} {ρ : Aj} {w : Ads} {d : Option Tmp} {ty : Ady} {pos : String} {af : Array Edge} {gd : Option (Nat × Bool)}
variable {α β : Type} {ek : α -> Adr} {ev : β -> Adr} {D : α -> Prop} {b : Nat} {G : α -> Option β} {t Kt E : Ady}
theorem Ace(hi:∀a c,ek a=ek c->a=c)(ht:P.underlying t=some (.map Kt E)){x:AdC}(hx:Ab ρ x = .map (some b))(h:MapF ek ev D w b G){ps:List (α × β)}(hn:(ps.map Aet).Nodup)(hG:∀a y,G a=some y↔(a,y)∈ps) 
  (hk:∀n w',w.heap.size=n->MIt ek ev w' n b ps->Ext w w' ->w'.heap.size=n+1->K (.pointer (some ⟨n,0,none⟩)) w'):Yk P K ((execOp (Ab ρ) ⟨d, .range t x,ty,pos,af,gd⟩).run P w):=by
 have hlt:=h.lt;obtain⟨es,c,hb,H,hS⟩:=h;have hr:(execOp (Ab ρ) ⟨d, .range t x,ty,pos,af,gd⟩).run P w = .ok (.value (.pointer (some ⟨w.heap.size,0,none⟩))) (w.alloc (.mapIter (some b) c #[] c)):=by
  unfold execOp;simp only[hx,AdB,run_range_map w t Kt E b _ c ht hb,AdA,AdF]
 rw[hr];refine hk _ _ rfl ⟨es.toArray,c,c,#[],c,heap_alloc_new _ _,(heap_alloc_old _ _ hlt).trans hb,hS,hS.1,Adw _,Adw _,?_⟩ ((Aeo _ _).alloc (Adw _) _) (by simp);have h0:(leftOf es.toArray #[]).toList=es:=by
  unfold leftOf;rw[Ag3];exact Ag2.2 fun _ _=>by simp
 rw[h0];refine(Ahn ?_ ?_).2 fun q=> ?_
 ·exact Agw (S:=(· ≠ ·)) Aet (fun a c hne e=>hne (by rw[e])) (by rw[AhH];exact H.keys)
 ·refine Ahs _ (fun p q hne e=>hne ?_) (Agw (S:=(· ≠ ·)) (R:=fun p q:α × β=>p.1≠q.1) Aet (fun _ _ h=>h) hn);exact hi _ _ (congrArg Aet e)
 ·constructor
  ·intro hq;obtain⟨e,he,rfl⟩:=Aeq.1 hq;obtain⟨a,y,-,h2,h3,h4⟩:=H.ent e he;exact Aeq.2 ⟨(a,y),(hG a y).1 h4,by rw[h2,h3]⟩
  ·intro hq;obtain⟨p,hp,rfl⟩:=Aeq.1 hq;have hg:=(hG p.1 p.2).2 hp;obtain⟨-,e,he,hek⟩:=H.all p.1 p.2 hg;obtain⟨a,y,-,h2,h3,h4⟩:=H.ent e he;have ha:a=p.1:=hi _ _ (h2.symm.trans hek);rw[ha,hg]at h4;cases h4;exact Aeq.2 ⟨e,he,by rw[hek,h3]⟩
theorem Abw{x:AdC}{g bm:Nat}{left:List (α × β)}(hx:Ab ρ x = .pointer (some ⟨g,0,none⟩))(h:MIt ek ev w g bm left) 
  (h0:left= []->K (.tuple #[.bool false]) w) (h1:∀a y rest w',left.Perm ((a,y) :: rest)->MIt ek ev w' g bm rest->Yx ek ev w' g bm a y->w.grownBy w' (some g)->w'.heap.size=w.heap.size->K (.tuple #[.bool true,ek a,ev y]) w'):
  Yk P K ((execOp (Ab ρ) ⟨d, .next x false,ty,pos,af,gd⟩).run P w):=by
 obtain⟨es,clock,since,seen,c0,hg,hb,hS,hold,hsc,hck,hp⟩:=h;have hgl:=(Aef.1 hg).1;have hne:bm≠g:=fun e=>by rw[e,hg]at hb;cases hb
 have hlp:=hp.length_eq;rw[AeU,AeU]at hlp;have hL:(leftOf es seen).toList.length=(leftOf es seen).size:=by simp
 by_cases hz:(leftOf es seen).size=0
 ·have hr:(Agt (.pointer (some ⟨g,0,none⟩)) false ty).run P w = .ok (.tuple #[.bool false]) w:=by
   simp only[Agt,getObj,AdB,AgU,hg,hb,Aek,next_test_false seen es since c0 hold hsc,Ae1,if_false];unfold leftOf at hz;have hz' :AiN (fun e=> !seen.contains e.born) es = #[]:=Array.eq_empty_of_size_eq_zero hz;rw[hz'];simp[choose,AgU,Question.forced]
  unfold execOp;simp only[hx,hr,AdB,AdA,AdF];exact h0 (Aep (by omega))
 ·obtain⟨e,he,w1,hw1,hsz1,hr⟩:∃e∈(leftOf es seen).toList,∃w1:Ads,w.grownBy w1 none/\w1.heap=w.heap/\(Agt (.pointer (some ⟨g,0,none⟩)) false ty).run P w = .ok (.tuple #[.bool true,e.key,e.val]) { w1 with heap:=w1.heap.setIfInBounds g (.mapIter (some bm) since (seen.push e.born) clock) } :=by
   simp only[Agt,getObj,AdB,AgU,hg,hb,Aek,next_test_false seen es since c0 hold hsc,Ae1,if_false];unfold leftOf at hz ⊢;have hmem:∀x∈(AiN (fun e=> !seen.contains e.born) es).toList,x.born<since:=fun x hx=>hold x (by simp at hx ⊢;exact hx.1)
   generalize AiN (fun e=> !seen.contains e.born) es=L at hmem hz ⊢
   have l:L.filter (fun x=>decide (x.born<since))=L:=Array.filter_eq_self.2 (fun x hx=>by simpa using hmem x (by simpa using hx));have m:L.filter (fun x=>decide (x.born>=since)) = #[]:=by
    rw[Array.filter_eq_empty_iff];intro x hx;have:=hmem x (by simpa using hx);simp;omega
   simp only[l,m,Array.append_empty];have hne' :L.isEmpty=false:=by simp[Array.isEmpty,hz]
   simp only[hne',Ae1,if_false,Array.empty_append,Array.size_map];have hch:∃(j:Nat) (w1:Ads),j<L.size/\w.grownBy w1 none/\w1.heap=w.heap/\(choose (Question.mapNext L.size)).run P w = .ok j w1:=by
    by_cases hf:L.size<=1
    ·exact⟨0,w,by omega,AdZ _ _,rfl,by simp[choose,AgU,Question.forced,hf]⟩
    ·exact⟨_,w.drew,Nat.mod_lt _ (by omega),(Adp w undef).drew.by_,rfl,by
      simp only[choose,AgU,Question.forced,decide_eq_true_eq,hf,if_false,Question.cut];rfl⟩
   obtain⟨j,w1,hj,hal,hwh,hrun⟩:=hch;refine⟨L[j],by simp,w1,hal,hwh,?_⟩;simp only[hrun,Array.getElem?_map,Array.getElem?_eq_getElem hj,Option.map_some,AdB,Aek,setObj,AgU,hwh,hg];rfl
  have hmk:(e.key,e.val)∈left.map fun p=>(ek p.1,ev p.2):=hp.mem_iff.1 (AfF (f:=fun e:AfS=>(e.key,e.val)) he);obtain⟨p,hpm,hpe⟩:=Aeq.1 hmk;obtain⟨rest,hrest⟩:∃rest,left.Perm (p :: rest):=by
   obtain⟨s,t,hst⟩:=List.append_of_mem hpm;exact⟨s++t,by rw[hst];exact List.perm_middle⟩
  have b:ek p.1=e.key:=congrArg Aet hpe;have c:ev p.2=e.val:=congrArg Prod.snd hpe;unfold execOp;simp only[hx,hr,AdB,AdA,AdF];rw[<-b,<-c];have hgr:w.grownBy { w1 with heap:=w1.heap.setIfInBounds g (.mapIter (some bm) since (seen.push e.born) clock) } (some g):=
   ⟨hw1.os,hw1.tape,hw1.output,by simp[hsz1],fun i _ hi=>by rw[hsz1];simp only[Afo];rw[if_neg (fun q=>hi (by rw[q]))]⟩
  have k:({ w1 with heap:=w1.heap.setIfInBounds g (.mapIter (some bm) since (seen.push e.born) clock) } :Ads).heap[bm]? =some (.map es clock):=by
   simp only[hsz1,Afo];rw[if_neg (fun q=>hne q.symm)];exact hb
  have hes:e∈es.toList:=by have:=he;unfold leftOf at this;simp at this ⊢;exact this.1
  refine h1 p.1 p.2 rest _ hrest ⟨es,clock,since,seen.push e.born,clock,by simp[hsz1,hgl],k,hS,hold,hck,hck,?_⟩ ⟨es,clock,since,seen,e,by simp[hsz1,hgl],k,hS.2.1,hes,b.symm,c.symm⟩ hgr (by simp[hsz1])
  ·have h2:=(MU (Rs (seen:=seen) hS.2.1) he).map fun e:AfS=>(e.key,e.val);rw[<-TB]at h2;have h3:=(h2.symm.trans hp).trans (hrest.map fun p=>(ek p.1,ev p.2));rw[AdK,AdK,<-hpe]at h3;exact h3.cons_inv
theorem AbI{x:AdC}{g bm:Nat}{left:List (α × β)}(hx:Ab ρ x = .pointer (some ⟨g,0,none⟩))(h:MIt ek ev w g bm left)(h0:left= [])(hk:K (.tuple #[.bool false]) w):
  Yk P K ((execOp (Ab ρ) ⟨d, .next x false,ty,pos,af,gd⟩).run P w):=
 Abw hx h (fun _=>hk) fun a y rest w' hp _ _ _ _=>by rw[h0]at hp;exact absurd hp.length_eq (by simp)
theorem AbY{x:AdC}{g bm:Nat}{left:List (α × β)}(hx:Ab ρ x = .pointer (some ⟨g,0,none⟩))(h:MIt ek ev w g bm left)(h0:left≠ []) 
 (hk:∀a y rest w',left.Perm ((a,y) :: rest)->MIt ek ev w' g bm rest->Yx ek ev w' g bm a y->w.grownBy w' (some g)->w'.heap.size=w.heap.size->K (.tuple #[.bool true,ek a,ev y]) w'):
 Yk P K ((execOp (Ab ρ) ⟨d, .next x false,ty,pos,af,gd⟩).run P w):=Abw hx h (fun e=>absurd e h0) hk
theorem Acf{x:AdC}{g bm:Nat}{a:α}{y:β}(hx:Ab ρ x = .pointer (some ⟨g,0,none⟩))(h:Yx ek ev w g bm a y)(hk:K (.tuple #[ek a,ev y]) w):
  Yk P K ((execOp (Ab ρ) ⟨d, .entry x,ty,pos,af,gd⟩).run P w):=by
 obtain⟨es,clock,since,seen,e,hg,hb,hn,he,h1,h2⟩:=h;have hf:es.find? (·.born==e.born)=some e:=by rw[<-Array.find?_toList];exact find_born e es.toList hn he
 have hr:(Instr.entry (.pointer (some ⟨g,0,none⟩))).run P w = .ok (.tuple #[e.key,e.val]) w:=by
  simp only[Instr.entry,getObj,AdB,AgU,hg,hb,Aek,Array.back?_push,bne_self_eq_false,Ae1,if_false,hf];rfl
 unfold execOp;simp only[hx,hr,AdB,AdA,AdF];rw[h1,h2];exact hk
end
structure DirOk (n : Nat) (l : Bh) : Prop where
 sort:DH l
 num:∀e∈l,e.2<n
 may:∀e∈l,Bq e.1=true
structure ActOk (n : Nat) (a : B5) : Prop where
 num:a.file<n
 may:a.to.length≠0->Bq a.to=true
 frm:a.frm.length<=80
structure DOk (d : Ak) : Prop where
 now:DirOk d.files.length d.now
 kept:DirOk d.files.length d.kept
 acts:∀a∈d.acts,ActOk d.files.length a
 syn:∀x∈d.files,x.2<=x.1.length
theorem DirOk.nil(n:Nat):DirOk n []:=⟨List.Pairwise.nil,fun _ h=>(by cases h),fun _ h=>(by cases h)⟩
abbrev Adq:=@DirOk.nil
theorem DirOk.mono{n m:Nat}{l:Bh}(h:DirOk n l)(hn:n<=m):DirOk m l:=⟨h.sort,fun e he=>AeS (h.num e he) hn,h.may⟩
theorem ActOk.mono{n m:Nat}{a:B5}(h:ActOk n a)(hn:n<=m):ActOk m a:=⟨AeS h.num hn,h.may,h.frm⟩
theorem DirOk.turn{n:Nat}{l:Bh}{a:B5}(h:DirOk n l)(ha:ActOk n a):DirOk n (turnD l a):=
 ⟨Tz h.sort a,fun e he=>(GR he).elim (h.num e) fun⟨_,q⟩=>q▸ha.num,fun e he=>(GR he).elim (h.may e) fun⟨q,r⟩=>r▸ha.may q⟩
theorem DirOk.fold{n:Nat}:∀ {acs:List B5} {l:Bh},DirOk n l->(∀a∈acs,ActOk n a)->DirOk n (acs.foldl turnD l)
 | [],_,h,_=>h
 | a :: r,l,h,ha=>DirOk.fold (acs:=r) (l:=turnD l a) (h.turn (ha a AeG)) fun b hb=>ha b (AeF _ hb)
theorem DirOk.look{n:Nat}{l:Bh}(h:DirOk n l){s:Ai1}{k:Nat}(hk:lookD l s=some k):k<n/\Bq s=true:=⟨h.num _ (E5 hk),h.may _ (E5 hk)⟩
theorem B6{s:Ai1}(h:Bq s=true):1<=s.length/\s.length<=80:=by
 unfold Bq at h
 simpa using h
theorem DirOk.noEmpty{n:Nat}{l:Bh}(h:DirOk n l):lookD l []=none:=Gb.2 fun e he q=>by
 have:=B6 (h.may e he);rw[q]at this;simp at this
theorem MV{d:Ak}{k:Nat}(h:k<d.files.length):Ar d k∈d.files:=by
 unfold Ar;rw[Adz,AdE h];exact Ae3 h
theorem DOk.sync_le{d:Ak}(h:DOk d)(k:Nat):(Ar d k).2<=(Ar d k).1.length:=by
 by_cases hk:k<d.files.length
 ·exact h.syn _ (MV hk)
 ·unfold Ar;rw[Adz,AeX (by omega)];exact Adw 0
theorem DOk.turned{d:Ak}(h:DOk d){a:B5}(ha:ActOk d.files.length a):DOk (turnedD d a):=
 ⟨h.now.turn ha,h.kept,fun b hb=>(Aed.1 hb).elim (h.acts b) fun q=>Aeb.1 q▸ha,h.syn⟩
theorem DOk.files{d:Ak}(h:DOk d)(fs:List (Ai1 × Nat))(hl:d.files.length<=fs.length)(hs:∀x∈fs,x.2<=x.1.length):DOk { d with files:=fs } :=
 ⟨h.now.mono hl,h.kept.mono hl,fun a ha=>(h.acts a ha).mono hl,hs⟩
theorem DOk.setFile{d:Ak}(h:DOk d)(k:Nat)(x:Ai1 × Nat)(hx:x.2<=x.1.length):DOk { d with files:=d.files.set k x } :=
 h.files _ (by rw[AfC];exact Adw _) fun y hy=>(AfX hy).elim (h.syn y) fun q=>q▸hx
theorem DOk.newFile{d:Ak}(h:DOk d)(x:Ai1 × Nat)(hx:x.2<=x.1.length):DOk { d with files:=d.files++ [x] } :=
 h.files _ (by rw[Adx];exact Nat.le_add_right _ _) fun y hy=>(Aed.1 hy).elim (h.syn y) fun q=>Aeb.1 q▸hx
theorem DOk.add{d:Ak}(h:DOk d){s:Ai1}(b:Ai1)(hs:Bq s=true):DOk (Bj d s b):=by
 unfold Bj;split
 ·rename_i k hk
  refine h.setFile k _ ?_;have:=h.sync_le k;simp only[Adx];omega
 ·have h1:=h.newFile (b,0) (AdN _);have h2:=h1.turned (a:=⟨[],s,d.files.length⟩) ⟨by simp,fun _=>hs,AdN _⟩;exact h2
theorem EI(d:Ak):(Cd d).1.files=d.files/\(Cd d).1.now=d.now/\(Cd d).1.kept=d.kept/\(Cd d).1.acts=d.acts/\(Cd d).1.quota=d.quota/\(Cd d).1.refused=d.refused:=by
 unfold Cd;split <;> exact⟨rfl,rfl,rfl,rfl,rfl,rfl⟩
theorem DOk.synced{d:Ak}(h:DOk d)(k:Nat):DOk { d with files:=d.files.set k ((Ar d k).1,(Ar d k).1.length),kept:=d.now,acts:= [] } :=by
 have h1:=h.setFile k ((Ar d k).1,(Ar d k).1.length) (Adw _);exact⟨h1.now,h1.now,fun a ha=>(by cases ha),h1.syn⟩
theorem Vk{d:Ak}{s t:Ai1}(h:CU d s t=0):d.down=false/\Bq s=true/\Bq t=true:=by
 unfold CU at h;split at h
 ·cases h
 ·rename_i hd
  split at h
  ·rename_i hm
   exact⟨Ahr.2 hd,hm⟩
  ·cases h
theorem Iw(l:List Int)(i:Nat){n:Nat}(hn:0<n):BK l i n<n:=by
 unfold BK;split
 ·have h1:=Int.emod_nonneg (l.getD i 0) (show((n:Nat):Int)≠0 by omega);have h2:=Int.emod_lt_of_pos (l.getD i 0) (show(0:Int)<((n:Nat):Int) by omega);show(AfT (l.getD i 0) ((n:Nat):Int)).toNat<n;have h1:0<=AfT (l.getD i 0) ((n:Nat):Int):=h1;have h2:AfT (l.getD i 0) ((n:Nat):Int)<((n:Nat):Int):=h2;omega
 ·exact hn
theorem GS{d:Ak}(h:DOk d)(l:List Int)(i k:Nat):(Fv d l i k).1.length=(Fv d l i k).2/\(Fv d l i k).2<=(Ar d k).1.length:=by
 have h1:=h.sync_le k;have h2:=Iw l (i+1) (n:=(Ar d k).1.length-(Ar d k).2+1) (by omega);unfold Fv;simp only[AdS];omega
theorem GT(l:Bh):(Dg l).map Aet=l.map Aet:=by
 unfold Dg;exact List.ext_getElem (by simp) fun i h1 h2=>by simp
theorem MW{l:Bh}(h:DH l):DH (Dg l):=by
 have h1:((Dg l).map Aet).Pairwise fun a b=>Ad3 a b=true:=by
  rw[GT];exact h.map _ fun _ _ q=>q
 exact Agw Aet (fun _ _ q=>q) h1
theorem DirOk.numbered{n:Nat}{l:Bh}(h:DirOk n l):DirOk l.length (Dg l):=
 ⟨MW h.sort,fun e he=>by
  unfold Dg at he;obtain⟨i,hi,rfl⟩:=AgF.1 he;exact hi,fun e he=>by
  have h1:e.1∈(Dg l).map Aet:=AfF he;rw[GT]at h1;obtain⟨x,hx,hxe⟩:=Aeq.1 h1;rw[<-hxe];exact h.may x hx⟩
theorem DOk.left{d:Ak}(h:DOk d)(l:List Int):DirOk d.files.length (AM d l):=h.kept.fold fun a ha=>h.acts a ((AgM _ _).subset ha)
theorem DOk.crash{d:Ak}(h:DOk d)(l:List Int):DOk (A8 d l):=by
 have h1:=(h.left l).numbered;refine⟨?_,?_,fun a ha=>(by cases ha),fun x hx=> ?_⟩
 ·show DirOk ((AM d l).mapIdx _).length _;rw[AgI];exact h1
 ·show DirOk ((AM d l).mapIdx _).length _;rw[AgI];exact h1
 ·obtain⟨i,hi,rfl⟩:=AgF.1 hx;exact Nat.le_of_eq (GS h l i _).1.symm
structure Chg (B : Nat -> Prop) (w w' : Ads) : Prop where
 os:w'.os=w.os
 tape:w'.tape=w.tape
 output:w'.output=w.output
 size:w.heap.size<=w'.heap.size
 blk:∀i,i<w.heap.size->¬B i->w'.heap[i]? =w.heap[i]?
theorem Chg.refl(B:Nat->Prop)(w:Ads):Chg B w w:=⟨rfl,rfl,rfl,Adw _,fun _ _ _=>rfl⟩
abbrev Adc:=@Chg.refl
theorem Chg.trans{B B' :Nat->Prop}{w w1 w2:Ads}(h:Chg B w w1)(k:Chg B' w1 w2)(hB:∀i,B' i->B i\/w.heap.size<=i):Chg B w w2:=
 ⟨k.os.trans h.os,k.tape.trans h.tape,k.output.trans h.output,Adu h.size k.size,fun i hi hn=>by
  have hs:=h.size;rw[k.blk i (by omega) (fun hb=>(hB i hb).elim hn (by omega)),h.blk i hi hn]⟩
theorem Chg.mono{B B' :Nat->Prop}{w w' :Ads}(h:Chg B w w')(hB:∀i,i<w.heap.size->B i->B' i):Chg B' w w' :=
 ⟨h.os,h.tape,h.output,h.size,fun i hi hn=>h.blk i hi fun hb=>hn (hB i hi hb)⟩
theorem Aap{w w' :Ads}{r:Option Nat}{B:Nat->Prop}(h:w.grownBy w' r)(hr:∀i,r=some i->B i\/w.heap.size<=i):Chg B w w' :=
 ⟨h.os,h.tape,h.output,h.size,fun i hi hn=>h.block i hi fun e=>(hr i e.symm).elim hn (by omega)⟩
theorem Chg.ofExt{w w' :Ads}{B:Nat->Prop}(h:Ext w w'):Chg B w w' :=Aap h.grown fun i e=>by cases e
abbrev Ac5:=@Chg.ofExt
theorem Chg.ext{w0 w w' :Ads}{B:Nat->Prop}(hE:Ext w0 w)(h:Chg B w w')(hB:∀i,B i->w0.heap.size<=i):Ext w0 w' :=by
 have h1:=hE.grown;have hs:=hE.size;exact(Aeo _ _).grown (⟨h.os.trans h1.os,h.tape.trans h1.tape,h.output.trans h1.output,Adu hs h.size,fun i hi hn=>by
  rw[h.blk i (by omega) (fun hb=>by have:=hB i hb;omega),h1.block i hi hn]⟩:w0.grownBy w' none) (Adw _) (fun _ e=>by cases e)
theorem Dl{base:Nat}{e:Ady}{size:Nat}{v:Adr}{n:Nat}{xs:List Adr}{B:Nat->Prop}{w w' :Ads}(hc:Chg B w w')(h:w.ownsRow base e size v n xs)(hB:∀i,v.ownBlock=some i->¬B i):w'.ownsRow base e size v n xs:=by
 refine⟨h.1,h.2.imp (fun x=>x) fun⟨g,cap,cur,a,c,b,r⟩=>⟨g,cap,cur,a,c,(hc.blk g (bl b) (hB g (by rw[a];rfl))).trans b,r⟩⟩
structure Dk where
 g:Nat
 mn:Nat
 ml:Nat
 va:Adr
 F:Nat->Nat
 V:Nat->Adr
def B7(H:Dk)(n:Nat)(i:Nat):Prop:=i=H.g\/i=H.mn\/i=H.ml\/H.va.ownBlock=some i\/∃k,k<n/\(i=H.F k\/(H.V k).ownBlock=some i)
structure FileAt (base : Nat) (w : Ads) (f : Nat) (v : Adr) (x : Ai1 × Nat) : Prop where
 blk:w.heap[f]? =some (.cells ([v,NI x.2]).toArray 120 (0,0))
 row:w.ownsRow base 5 1 v x.1.length (Lib.byteCells x.1)
 lo:base<=f
structure FilesAt (base : Nat) (w : Ads) (F : Nat -> Nat) (V : Nat -> Adr) (fs : List (Ai1 × Nat)) : Prop where
 at_:∀k,k<fs.length->FileAt base w (F k) (V k) (fs.getD k ([],0))
 inj:∀i j,i<fs.length->j<fs.length->F i=F j->i=j
 apart:∀i j,i<fs.length->j<fs.length->i≠j->∀x,(V i).ownBlock=some x->(V j).ownBlock≠some x
theorem FileAt.keep{base:Nat}{w w' :Ads}{f:Nat}{v:Adr}{x:Ai1 × Nat}(h:FileAt base w f v x){B:Nat->Prop}(hc:Chg B w w')(h1:¬B f)(h2:∀i,v.ownBlock=some i->¬B i):FileAt base w' f v x:=
 ⟨(hc.blk f (bl h.blk) h1).trans h.blk,Dl hc h.row h2,h.lo⟩
theorem FilesAt.chg{base:Nat}{w w' :Ads}{F:Nat->Nat}{V:Nat->Adr}{fs:List (Ai1 × Nat)}(h:FilesAt base w F V fs){B:Nat->Prop}(hc:Chg B w w')(hB:∀k,k<fs.length->¬B (F k)/\∀i,(V k).ownBlock=some i->¬B i):FilesAt base w' F V fs:=
 ⟨fun k hk=>(h.at_ k hk).keep hc (hB k hk).1 (hB k hk).2,h.inj,h.apart⟩
def Zc:Prop:=True
def ActAt(w:Ads)(F:Nat->Nat)(v:Adr)(a:B5):Prop:=
 (∃bf bn,v = .func (.func 95) #[] #[PQ bf 0,PQ bn 0]/\w.heap[bf]? =some (.cells ([PQ (F a.file) 0]).toArray 112 (0,0))/\w.heap[bn]? =some (.cells ([St a.to]).toArray 9 (0,0))/\a.frm= []/\a.to.length≠0) \/
 (Zc/\∃bs bf bn,v = .func (.func 127) #[] #[PQ bs 0,PQ bf 0,PQ bn 0]/\w.heap[bs]? =some (.cells ([St a.frm]).toArray 9 (0,0))/\w.heap[bf]? =some (.cells ([PQ (F a.file) 0]).toArray 112 (0,0))/\w.heap[bn]? =some (.cells ([St a.to]).toArray 9 (0,0))/\a.to.length≠0) \/
 (∃bn,v = .func (.func 120) #[] #[PQ bn 0]/\w.heap[bn]? =some (.cells ([St a.frm]).toArray 9 (0,0))/\a.to= [])
def TyB(w:Ads)(i:Nat):Prop:=(∃es c,w.heap[i]? =some (.map es c))\/∃cs t fr,w.heap[i]? =some (.cells cs t fr)/\(t=82\/t=120\/t=5\/t=113)
theorem TyB.off{w:Ads}{i:Nat}{cs:Array Adr}{t:Ady}{fr:Nat × Nat}(h:w.heap[i]? =some (.cells cs t fr))(h1:t≠82)(h2:t≠120)(h3:t≠5)(h4:t≠113):¬TyB w i:=by
 rintro(⟨es,c,e⟩ | ⟨cs',t',fr',e,k⟩)
 ·rw[h]at e;cases e
 ·rw[h]at e;cases e;rcases k with k | k | k | k
  ·exact h1 k
  ·exact h2 k
  ·exact h3 k
  ·exact h4 k
theorem ActAt.chg{w w' :Ads}{F F' :Nat->Nat}{v:Adr}{a:B5}{B:Nat->Prop}(h:ActAt w F v a)(hc:Chg B w w')(hB:∀i,i<w.heap.size->B i->TyB w i)(hF:F' a.file=F a.file):ActAt w' F' v a:=by
 have k:∀ {b:Nat} {cs:Array Adr} {t:Ady} {fr:Nat × Nat},w.heap[b]? =some (.cells cs t fr)->t≠82->t≠120->t≠5->t≠113->w'.heap[b]? =some (.cells cs t fr):=fun e h1 h2 h3 h4=>(hc.blk _ (bl e) fun q=>TyB.off e h1 h2 h3 h4 (hB _ (bl e) q)).trans e;rcases h with ⟨bf,bn,e,h1,h2,h3,h4⟩ | ⟨hm,bs,bf,bn,e,h1,h2,h3,h4⟩ | ⟨bn,e,h1,h2⟩
 ·exact .inl ⟨bf,bn,e,by rw[hF];exact k h1 (by decide) (by decide) (by decide) (by decide),k h2 (by decide) (by decide) (by decide) (by decide),h3,h4⟩
 ·exact .inr (.inl ⟨hm,bs,bf,bn,e,k h1 (by decide) (by decide) (by decide) (by decide),by rw[hF];exact k h2 (by decide) (by decide) (by decide) (by decide),k h3 (by decide) (by decide) (by decide) (by decide),h4⟩)
 ·exact .inr (.inr ⟨bn,e,k h1 (by decide) (by decide) (by decide) (by decide),h2⟩)
abbrev pF(F:Nat->Nat)(k:Nat):Adr:=PQ (F k) 0
abbrev Nm(s:Ai1):Prop:=s.length<=80
abbrev Ju(q mn ml:Nat)(va:Adr)(rf ar:Nat)(dn:Bool):List Adr:= [NI q, .map (some mn), .map (some ml),va,NI rf,NI ar, .bool dn]
structure OI (base : Nat) (w : Ads) (va : Adr) (F : Nat -> Nat) (acs : List B5) (vs : List Adr) : Prop where
 row:w.ownsRow base 113 1 va vs.length vs
 len:vs.length=acs.length
 at_:∀i,i<acs.length->ActAt w F (vs.getD i undef) (acs.getD i ⟨[],[],0⟩)
structure DkS (base : Nat) (w : Ads) (H : Dk) (D : Ak) : Prop where
 blk:w.heap[H.g]? =some (.cells (Ju D.quota H.mn H.ml H.va D.refused D.arm D.down).toArray 82 (0,0))
 now:MapF St (pF H.F) Nm w H.mn (lookD D.now)
 kept:MapF St (pF H.F) Nm w H.ml (lookD D.kept)
 ne:H.mn≠H.ml
 acts:∃vs,OI base w H.va H.F D.acts vs
 files:FilesAt base w H.F H.V D.files
 ok:DOk D
 lo:base<=H.g/\base<=H.mn/\base<=H.ml
def CV(w:Ads)(i:Nat):Option Nat:=match w.heap[i]? with | some (.map _ _)=>some 0 | some (.cells _ t _)=>some (t+1) | _=>none
theorem Bu{w:Ads}{i:Nat}{cs:Array Adr}{t:Ady}{fr:Nat × Nat}(h:w.heap[i]? =some (.cells cs t fr)):CV w i=some (t+1):=by unfold CV;rw[h]
theorem Fe{base:Nat}{e:Ady}{size:Nat}{v:Adr}{n:Nat}{xs:List Adr}{w:Ads}(h:w.ownsRow base e size v n xs){i:Nat}(hi:v.ownBlock=some i):CV w i=some (e+1):=by
 rcases h.2 with ⟨rfl,-⟩ | ⟨g,cap,cur,rfl,b,a,-⟩
 ·cases hi
 ·obtain rfl:g=i:=AdY hi;exact Bu a
theorem MapF.tag{α β:Type}{ek:α->Adr}{ev:β->Adr}{D:α->Prop}{w:Ads}{b:Nat}{G:α->Option β}(h:MapF ek ev D w b G):CV w b=some 0:=by
 obtain⟨es,c,h,-⟩:=h;unfold CV;rw[h]
theorem MapF.congr{α β:Type}{ek:α->Adr}{ev ev' :β->Adr}{D:α->Prop}{w:Ads}{b:Nat}{G:α->Option β}(h:MapF ek ev D w b G)(he:∀a y,G a=some y->ev' y=ev y):MapF ek ev' D w b G:=by
 obtain⟨es,c,h1,h2,h3⟩:=h;exact⟨es,c,h1,⟨h2.keys,fun e he' =>by
  obtain⟨a,y,k1,k2,k3,k4⟩:=h2.ent e he';exact⟨a,y,k1,k2,k3.trans (he a y k4).symm,k4⟩,h2.all⟩,h3⟩
theorem MapF.chg{α β:Type}{ek:α->Adr}{ev:β->Adr}{D:α->Prop}{w w' :Ads}{b:Nat}{G:α->Option β}{B:Nat->Prop}(h:MapF ek ev D w b G)(hc:Chg B w w')(hB:¬B b):MapF ek ev D w' b G:=by
 obtain⟨es,c,h1,h2⟩:=h;exact⟨es,c,(hc.blk b (bl h1) hB).trans h1,h2⟩
theorem Chg.keep{B:Nat->Prop}{w w1 w2:Ads}(h:Chg B w w1)(k:Ext w1 w2):Chg B w w2:=h.trans (B' :=fun _=>False) (Ac5 k) fun _ h=>h.elim
theorem Chg.set{B:Nat->Prop}{w w1 w2:Ads}{g:Nat}(h:Chg B w w1)(k:w1.grownBy w2 (some g))(hg:B g\/w.heap.size<=g):Chg B w w2:=h.trans (B' :=fun i=>i=g) (Aap k fun i e=> .inl (AdY e).symm) fun i e=>e▸hg
abbrev Ac0:=@Chg.set
theorem Aa8{B:Nat->Prop}{w w1 w2:Ads}{v v' :Adr}(h:Chg B w w1)(k:Grew w1 w2 v v')(hv:∀i,v.ownBlock=some i->B i\/w.heap.size<=i):Chg B w w2:=h.trans (B' :=fun i=>v.ownBlock=some i) (Aap k.by_ fun i e=> .inl e) hv
section
variable {base : Nat} {w w' : Ads} {H : Dk} {D : Ak}
theorem DkS.tg(h:DkS base w H D):CV w H.g=some (82+1):=Bu h.blk
theorem DkS.tF(h:DkS base w H D){k:Nat}(hk:k<D.files.length):CV w (H.F k)=some (120+1):=Bu (h.files.at_ k hk).blk
theorem DkS.tV(h:DkS base w H D){k:Nat}(hk:k<D.files.length){i:Nat}(hi:(H.V k).ownBlock=some i):CV w i=some (5+1):=Fe (h.files.at_ k hk).row hi
theorem DkS.tA(h:DkS base w H D){i:Nat}(hi:H.va.ownBlock=some i):CV w i=some (113+1):=by
 obtain⟨vs,hv⟩:=h.acts;exact Fe hv.row hi
theorem Dt{i:Nat}(h:CV w i=some 0\/CV w i=some (82+1)\/CV w i=some (120+1)\/CV w i=some (5+1)\/CV w i=some (113+1)):TyB w i:=by
 unfold CV at h;cases hb:w.heap[i]? with
 | none=>rw[hb]at h;simp at h
 | some o=>
  rw[hb]at h;cases o with
  | map es c=>exact .inl ⟨es,c,hb⟩
  | cells cs t fr=>
   refine .inr ⟨cs,t,fr,hb,?_⟩;simp only[Option.some.injEq]at h;rcases h with h | h | h | h | h
   ·omega
   ·exact .inl (Nat.succ.inj h)
   ·exact .inr (.inl (Nat.succ.inj h))
   ·exact .inr (.inr (.inl (Nat.succ.inj h)))
   ·exact .inr (.inr (.inr (Nat.succ.inj h)))
  | _=>simp at h
theorem DkS.foot(h:DkS base w H D){i:Nat}(hi:B7 H D.files.length i):TyB w i/\i<w.heap.size/\base<=i:=by
 have lt:∀ {j:Nat} {x:Nat},CV w j=some x->j<w.heap.size:=fun {j x} e=>by
  rcases Nat.lt_or_ge j w.heap.size with q | q
  ·exact q
  ·unfold CV at e;rw[Array.getElem?_eq_none q]at e;cases e
 rcases hi with rfl | rfl | rfl | hi | ⟨k,hk,rfl | hi⟩
 ·exact⟨Dt (.inr (.inl h.tg)),lt h.tg,h.lo.1⟩
 ·exact⟨Dt (.inl h.now.tag),lt h.now.tag,h.lo.2.1⟩
 ·exact⟨Dt (.inl h.kept.tag),lt h.kept.tag,h.lo.2.2⟩
 ·obtain⟨vs,hv⟩:=h.acts;exact⟨Dt (.inr (.inr (.inr (.inr (h.tA hi))))),lt (h.tA hi),(hv.row.lt i hi).1⟩
 ·exact⟨Dt (.inr (.inr (.inl (h.tF hk)))),lt (h.tF hk),(h.files.at_ k hk).lo⟩
 ·exact⟨Dt (.inr (.inr (.inr (.inl (h.tV hk hi))))),lt (h.tV hk hi),((h.files.at_ k hk).row.lt i hi).1⟩
theorem DkS.keepB{B:Nat->Prop}(h:DkS base w H D)(hc:Chg B w w')(hB:∀i,B7 H D.files.length i->¬B i)(hT:∀i,i<w.heap.size->B i->TyB w i):DkS base w' H D:=by
 obtain⟨vs,hv⟩:=h.acts;exact⟨(hc.blk _ (bl h.blk) (hB _ (.inl rfl))).trans h.blk,h.now.chg hc (hB _ (.inr (.inl rfl))),h.kept.chg hc (hB _ (.inr (.inr (.inl rfl)))),h.ne,
  ⟨vs,Dl hc hv.row (fun i hi=>hB i (.inr (.inr (.inr (.inl hi))))),hv.len,fun i hi=>(hv.at_ i hi).chg hc hT rfl⟩,
  h.files.chg hc (fun k hk=>⟨hB _ (.inr (.inr (.inr (.inr ⟨k,hk, .inl rfl⟩)))),fun i hi=>hB i (.inr (.inr (.inr (.inr ⟨k,hk, .inr hi⟩))))⟩),h.ok,h.lo⟩
theorem DkS.keep(h:DkS base w H D)(k:Ext w w'):DkS base w' H D:=h.keepB (B:=fun _=>False) (Ac5 k) (fun _ _ q=>q) (fun _ _ q=>q.elim)
theorem DkS.setBlk(h:DkS base w H D)(hg:w.grownBy w' (some H.g)){q rf ar:Nat}{dn:Bool}(hb:w'.heap[H.g]? =some (.cells (Ju q H.mn H.ml H.va rf ar dn).toArray 82 (0,0))):DkS base w' H { D with quota:=q,refused:=rf,arm:=ar,down:=dn } :=by
 have hc:Chg (fun i=>i=H.g) w w' :=Aap hg fun i e=> .inl (AdY e).symm;have hT:∀i,i<w.heap.size->i=H.g->TyB w i:=fun i _ e=>e▸Dt (.inr (.inl h.tg));obtain⟨vs,hv⟩:=h.acts;have ne0:∀ {i x:Nat},CV w i=some x->x≠82+1->i≠H.g:=fun e hx q=>by rw[q,h.tg]at e;exact hx (AdY e).symm
 exact⟨hb,h.now.chg hc (ne0 h.now.tag (by decide)),h.kept.chg hc (ne0 h.kept.tag (by decide)),h.ne,
  ⟨vs,Dl hc hv.row (fun i hi=>ne0 (h.tA hi) (by decide)),hv.len,fun i hi=>(hv.at_ i hi).chg hc hT rfl⟩,
  h.files.chg hc (fun k hk=>⟨ne0 (h.tF hk) (by decide),fun i hi=>ne0 (h.tV hk hi) (by decide)⟩),⟨h.ok.now,h.ok.kept,h.ok.acts,h.ok.syn⟩,h.lo⟩
def Bn{α:Type}(F:Nat->α)(n:Nat)(x:α)(k:Nat):α:=if k=n then x else F k
theorem BF{α:Type}(F:Nat->α){n k:Nat}(x:α)(h:k<n):Bn F n x k=F k:=if_neg (by omega)
theorem BV{α:Type}(F:Nat->α)(n:Nat)(x:α):Bn F n x n=x:=if_pos rfl
theorem HV{α:Type}(F:Nat->α){n k:Nat}(x:α)(h:k≠n):Bn F n x k=F k:=if_neg h
theorem DkS.newFile(h:DkS base w H D)(hE:Ext w w'){f:Nat}(hf:w.heap.size<=f)(hb:w'.heap[f]? =some (.cells ([.slice none 0 0,NI 0]).toArray 120 (0,0)))(h0:base<=w.heap.size):
  DkS base w' { H with F:=Bn H.F D.files.length f,V:=Bn H.V D.files.length (.slice none 0 0) } { D with files:=D.files++ [([],0)] } :=by
 have h1:=h.keep hE;obtain⟨vs,hv⟩:=h1.acts;refine⟨h1.blk,h1.now.congr fun a y hy=> ?_,h1.kept.congr fun a y hy=> ?_,h1.ne,⟨vs,hv.row,hv.len,fun i hi=> ?_⟩,⟨fun k hk=> ?_,fun i j hi hj e=> ?_,fun i j hi hj hne x hx=> ?_⟩,h.ok.newFile _ (Adw 0),h1.lo⟩
 ·show PQ (Bn _ _ _ _) 0=_;rw[BF _ _ (h.ok.now.look hy).1]
 ·show PQ (Bn _ _ _ _) 0=_;rw[BF _ _ (h.ok.kept.look hy).1]
 ·refine(hv.at_ i hi).chg (B:=fun _=>False) (Adc _ _) (fun _ _ q=>q.elim) (BF _ _ ?_);exact(h.ok.acts _ (by rw[Adz,AdE hi];exact Ae3 hi)).num
 ·rw[Adx,Ad4]at hk;by_cases e:k=D.files.length
  ·subst e;show FileAt base w' (Bn _ _ _ _) (Bn _ _ _ _) _;rw[BV,BV,Adz,AeC (Adw _),AhJ];exact⟨hb,Ae7 _ _ _ 1,by omega⟩
  ·have hk' :k<D.files.length:=by omega
   show FileAt base w' (Bn _ _ _ _) (Bn _ _ _ _) _;rw[BF _ _ hk',BF _ _ hk',Adz,AeP hk',<-Adz];exact h1.files.at_ k hk'
 ·rw[Adx,Ad4]at hi hj;have lt:∀k,k<D.files.length->H.F k<w.heap.size:=fun k hk=>(h.foot (.inr (.inr (.inr (.inr ⟨k,hk, .inl rfl⟩))))).2.1;by_cases ei:i=D.files.length <;> by_cases ej:j=D.files.length
  ·omega
  ·exfalso;have e:Bn H.F D.files.length f i=Bn H.F D.files.length f j:=e;rw[ei,BV,BF _ _ (by omega:j<D.files.length)]at e;have:=lt j (by omega);omega
  ·exfalso;have e:Bn H.F D.files.length f i=Bn H.F D.files.length f j:=e;rw[ej,BV,BF _ _ (by omega:i<D.files.length)]at e;have:=lt i (by omega);omega
  ·have e:Bn H.F D.files.length f i=Bn H.F D.files.length f j:=e;rw[BF _ _ (by omega:i<D.files.length),BF _ _ (by omega:j<D.files.length)]at e;exact h.files.inj i j (by omega) (by omega) e
 ·rw[Adx,Ad4]at hi hj;have hx:(Bn H.V D.files.length (.slice none 0 0) i).ownBlock=some x:=hx;show(Bn H.V D.files.length (.slice none 0 0) j).ownBlock≠some x;by_cases ei:i=D.files.length
  ·rw[ei,BV]at hx;cases hx
  ·by_cases ej:j=D.files.length
   ·rw[ej,BV];exact fun q=>by cases q
   ·rw[BF _ _ (by omega:i<D.files.length)]at hx;rw[BF _ _ (by omega:j<D.files.length)];exact h.files.apart i j (by omega) (by omega) hne x hx
theorem DkS.setFile(h:DkS base w H D){k:Nat}(hk:k<D.files.length){v:Adr}{x:Ai1 × Nat}(hx:x.2<=x.1.length)(hc:Chg (fun i=>i=H.F k\/(H.V k).ownBlock=some i) w w')(hf:FileAt base w' (H.F k) v x)(hv:∀i,v.ownBlock=some i->(H.V k).ownBlock=some i\/w.heap.size<=i):
    DkS base w' { H with V:=Bn H.V k v } { D with files:=D.files.set k x } :=by
  have hT:∀i,i<w.heap.size->(i=H.F k\/(H.V k).ownBlock=some i)->TyB w i:=fun i _ e=>e.elim (fun e=>e▸Dt (.inr (.inr (.inl (h.tF hk))))) fun e=>Dt (.inr (.inr (.inr (.inl (h.tV hk e)))));obtain⟨vs,hvs⟩:=h.acts;have ne0:∀ {i x:Nat},CV w i=some x->x≠120+1->x≠5+1->¬(i=H.F k\/(H.V k).ownBlock=some i):=fun e h1 h2 q=>q.elim (fun q=>by rw[q,h.tF hk]at e;exact h1 (AdY e).symm) fun q=>by rw[h.tV hk q]at e;exact h2 (AdY e).symm
  have off:∀j,j<D.files.length->j≠k->¬(H.F j=H.F k\/(H.V k).ownBlock=some (H.F j))/\∀i,(H.V j).ownBlock=some i->¬(i=H.F k\/(H.V k).ownBlock=some i):=fun j hj hne=>
    ⟨fun q=>q.elim (fun q=>hne (h.files.inj j k hj hk q)) fun q=>by have:=h.tV hk q;rw[h.tF hj]at this;exact absurd (AdY this) (by decide),
     fun i hi q=>q.elim (fun q=>by have:=h.tV hj hi;rw[q,h.tF hk]at this;exact absurd (AdY this) (by decide)) fun q=>h.files.apart j k hj hk hne i hi q⟩
  refine⟨(hc.blk _ (bl h.blk) (ne0 h.tg (by decide) (by decide))).trans h.blk,h.now.chg hc (ne0 h.now.tag (by decide) (by decide)),h.kept.chg hc (ne0 h.kept.tag (by decide) (by decide)),h.ne,
    ⟨vs,Dl hc hvs.row (fun i hi=>ne0 (h.tA hi) (by decide) (by decide)),hvs.len,fun i hi=>(hvs.at_ i hi).chg hc hT rfl⟩,⟨fun j hj=> ?_,fun i j hi hj e=> ?_,fun i j hi hj hne y hy=> ?_⟩,h.ok.setFile k x hx,h.lo⟩
  · rw[AfC]at hj;by_cases e:j=k
    · subst e;show FileAt base w' (H.F j) (Bn _ _ _ _) _;rw[BV,Adz,Aic hj];exact hf
    · show FileAt base w' (H.F j) (Bn _ _ _ _) _;rw[HV _ _ e,Adz,Aiq (fun q=>e q.symm),<-Adz];exact(h.files.at_ j hj).keep hc (off j hj e).1 (off j hj e).2
  · rw[AfC]at hi hj;exact h.files.inj i j hi hj e
  · rw[AfC]at hi hj;have hy:(Bn H.V k v i).ownBlock=some y:=hy;show(Bn H.V k v j).ownBlock≠some y;by_cases ei:i=k
    · have ej:j≠k:=fun q=>hne (ei.trans q.symm);rw[ei,BV]at hy;rw[HV _ _ ej];intro q;rcases hv y hy with r | r
      · exact h.files.apart j k hj hk ej y q r
      · have:=(h.foot (.inr (.inr (.inr (.inr ⟨j,hj, .inr q⟩))))).2.1;omega
    · rw[HV _ _ ei]at hy;by_cases ej:j=k
      · rw[ej,BV];intro q;rcases hv y q with r | r
        · exact h.files.apart i k hi hk ei y hy r
        · have:=(h.foot (.inr (.inr (.inr (.inr ⟨i,hi, .inr hy⟩))))).2.1;omega
      · rw[HV _ _ ej];exact h.files.apart i j hi hj hne y hy
end
abbrev Gc(s:Ai1):List Adr:= [St s]
abbrev Km(v:Adr):List Adr:= [v]
theorem Vl(l:List Ai1):l.flatMap Gc=l.map St:=by
 induction l with
 | nil=>rfl
 | cons a l ih=>rw[Aen,AdK,ih];rfl
theorem enV_flat(l:List Adr):l.flatMap Km=l:=by
 induction l with
 | nil=>rfl
 | cons a l ih=>rw[Aen,ih];rfl
set_option maxRecDepth 100000
abbrev IO(n:Int):List Adr:= [.int .i64 n]
def readyL(d:Ak)(l:List Ai1):Nat:=if d.down=true then 9 else if l.all Bq=true then 0 else 10
theorem PL{d:Ak}{l:List Ai1}(h:d.down=true):readyL d l=9:=if_pos h
theorem TC{d:Ak}{l:List Ai1}(h:d.down=false)(h2:l.all Bq=true):readyL d l=0:=(if_neg (by rw[h];decide)).trans (if_pos h2)
theorem Rt{d:Ak}{l:List Ai1}{i:Nat}(h:d.down=false)(hi:i<l.length)(hm:Bq (l.getD i [])=false):readyL d l=10:=by
 refine(if_neg (by rw[h];decide)).trans (if_neg fun ha=> ?_);have:=Ael.1 ha (l.getD i []) (by rw[Adz,AdE hi];exact Ae3 hi);rw[hm]at this;cases this
theorem Vm{l:List Ai1}{i:Nat}(hi:i<l.length)(h:(l.take i).all Bq=true)(hm:Bq (l.getD i [])=true):(l.take (i+1)).all Bq=true:=by
 rw[AeW hi,AhW,h];rw[Adz,AdE hi]at hm
 simpa using hm
theorem Vn:Tryz.prog.underlying 25=some (.pointer 82):=by kernel_rfl
theorem Ru:Ax Adt 82 6 6:=fun b o w=>by simp[go_sem]
theorem MX:Tryz.prog.underlying 114=some (.slice 9):=by kernel_rfl
theorem Vo:∀w' :Ads,(sizeOf 9).run Adt w' = .ok 1 w' :=fun _=>by kernel_rfl
theorem TD:Plain Adt 104:=fun _ _=>by kernel_rfl
set_option maxHeartbeats 1600000
theorem Xe(w:Ads)(s:Ai1):
  Calls Adt 104 #[St s] w fun e w' =>e = .returned (.bool (Bq s))/\Ext w w' :=by
 refine F2 (args:= [St (s)]) Tryz.func104 rfl 11 rfl rfl ?_;have hE:=Acz w;refine gS (Aaq (l:=s) E4 rfl (gS (ZO (a:=(s.length:Nat)) (b:=(1:Nat)) rfl rfl (FO _ _ _ _) (gO fun _=>Ae (St (s)) rfl rfl (gT rfl) (fun hG3=>AcF rfl ⟨rfl,rfl⟩) (At (gO fun _=>Ae (NI s.length) rfl rfl (gT rfl) (fun hG4=>Aaq (l:=s) E4 (Al rfl hG4) ⟨rfl,rfl⟩) (At (gO fun _=>Ae (.bool (decide ((s.length)<=(80)))) rfl rfl (gT rfl) (fun hG5=>ZO (a:=((s.length:Nat):Int)) (b:=((80:Nat):Int)) (Al rfl hG5) rfl (Fj _ .i64 (s.length) (80)) ⟨rfl,rfl⟩) (At (gS (Z9 rfl (fun hA=>(Al rfl hA)) rfl fun bb6 hbb7=>(Az rfl (vr (.bool (bb6)) rfl) ?_))))))))))));subst hbb7;exact⟨rfl,hE⟩
theorem FH(base:Nat)(w:Ads)(H:Dk)(D:Ak)(hS:DkS base w H D)(v:Adr)(l:List Ai1)(hr:RG 1 Gc w v l)(hl:l.length<4611686018427387904):
  Calls Adt 61 #[PQ H.g 0,v] w fun e w' =>e = .returned (NI (readyL D l))/\Ext w w' :=by
 have hb:=hS.blk;have hgl:=(bl hb);refine gG (args:= [PQ H.g 0,v]) Tryz.func61 rfl 23 rfl rfl ?_;have hE:=Acz w;refine gS (Aas Vn rfl (cF rfl (gS (AcA rfl (gS (Acy Ru rfl (gS (ZN UW rfl rfl (Ac hb rfl) ?_))))))));refine cB (D.down) rfl (fun c=> ?_) fun c=> ?_
 ·refine Az rfl (vr (NI 9) rfl) ?_;exact⟨by rw[PL (by simpa using c)],hE⟩
 refine gS (ZZ MX (ZU hr rfl) (gL (fun(ρ:Aj) (wz:Ads)=>∃i:Nat,ρ 0=(PQ H.g 0:Adr)/\ρ 1=(v:Adr)/\ρ 8=(.bool (false):Adr)/\ρ 13=(v:Adr)/\ρ 14=(NI l.length:Adr)/\ρ 15=(NI i:Adr)/\RG 1 Gc wz v l/\wz.heap[H.g]? =some (.cells (Ju (D.quota) (H.mn) (H.ml) (H.va) (D.refused) (D.arm) (D.down)).toArray 82 (0,0))/\Ext w wz/\(i<=l.length)/\((l.take i).all Bq=true)/\True) (fun ρ _=>l.length-(intOf (ρ 15)).toNat) ⟨0,rfl,rfl,rfl,rfl,rfl,rfl,hr,hb,hE,AdN _,rfl,trivial⟩ ?_));clear hr hb hE;rintro p s ⟨i,q,T1,r,k,m,f,hr,hb,hE,hi,hn,-⟩;have q15:=f;refine gS (ZO (a:=(i:Nat)) (b:=(l.length:Nat)) f m (Bg _ _ _ _) ?_);refine cD rfl (fun n=> ?_) fun n=> ?_
 ·have hlt:i<l.length:=n;have t:(Gc (l.getD (i) ([]:Ai1))).length=1:=(AcL hr ([]:Ai1) (by omega));refine gS (Z3 MX Vo (by decide) ([]:Ai1) (ZU hr k) f (by omega) fun u o=>(gS (Aab E4 rfl (PR.cell (Aaa o rfl) rfl) ?_)));clear o;refine gS (ZP TD rfl ((Xe _ (l.getD (i) ([]:Ai1))).mono ?_));rintro e x ⟨rfl,h⟩;refine⟨_,rfl,?_⟩;refine gS (Z2 rfl ?_);refine cB (!(Bq (l.getD (i) ([]:Ai1)))) rfl (fun j=> ?_) fun j=> ?_
  ·have hm:Bq (l.getD i [])=false:=by simpa using j
   refine Az rfl (vr (NI 10) rfl) ?_;have hE:=hE.trans h;exact⟨by rw[Rt (by simpa using c) hlt hm],hE⟩
  have hm:Bq (l.getD i [])=true:=by simpa using j
  have hr:=hr.keep h;have hb:=eb h hb;have hE:=hE.trans h;refine gS (ZV (xv:=NI i) (yv:=NI 1) f rfl rfl (AF _ _ _ (by omega)) (gK (And.intro ⟨i+1,q,T1,r,k,m,rfl,hr,hb,hE,by omega,Vm hlt hn hm,trivial⟩ ?_)));show l.length-(intOf (NI ((i)+(1)))).toNat<l.length-(intOf (p 15)).toNat;rw[q15];simp only[intOf,AdV];omega
 refine Az rfl (vr (NI 0) rfl) ?_;exact⟨by rw[TC (by simpa using c) (by rw[List.take_of_length_le (by omega)]at hn;exact hn)],hE⟩
theorem TE{n:Nat}{l:Bh}(h:DirOk n l):(l.map Aet).Nodup:=
 Ahs _ (fun a b q e=>by rw[e,Ga]at q;cases q) h.sort
theorem Xf{n:Nat}{l:Bh}(h:DirOk n l)(a:Ai1)(y:Nat):lookD l a=some y↔(a,y)∈l:=⟨E5,fun q=>HU h.sort q⟩
theorem Vp{α:Type}(f:α->Nat){l:List α}{a:α}{r:List α}(h:l.Perm (a :: r)):(l.map f).sum=f a+(r.map f).sum:=by
 have:=(h.map f).sum_nat;rw[this,AdK,List.sum_cons]
theorem Rv:Ax Adt 82 1 1:=fun b o w=>by simp[go_sem]
theorem OJ:Tryz.prog.underlying 79=some (.map 9 112):=by kernel_rfl
theorem PM:Ax Adt 120 0 0:=fun b o w=>by simp[go_sem]
theorem Qp(base:Nat)(w:Ads)(H:Dk)(D:Ak)(hS:DkS base w H D)(hU:usedD D<4611686018427387904):
  Calls Adt 62 #[PQ H.g 0] w fun e w' =>e = .returned (NI (usedD D))/\Ext w w' :=by
 have hb:=hS.blk;have hgl:=(bl hb);refine gG (args:= [PQ H.g 0]) Tryz.func62 rfl 23 rfl rfl ?_;have hE:=Acz w;refine gS (AcA rfl (gS (Acy Rv rfl (gS (ZN OJ rfl rfl (Ac (eb hE hb) rfl) (gS (Ace (fun a c=>Eb) OJ rfl (hS.keep hE).now (TE hS.ok.now) (Xf hS.ok.now) fun b r t j k u=> ?_)))))));have hI11:=j;clear j;have hgi:=MIt.lt hI11;have hE:=hE.trans k;refine gL (fun(ρ:Aj) (wz:Ads)=>∃left:List (Ai1 × Nat),∃s:Nat,ρ 0=(PQ H.g 0:Adr)/\ρ 2=(NI 0:Adr)/\ρ 10=(PQ b 0:Adr)/\ρ 3=(NI s:Adr)/\Ext w wz/\MIt St (pF H.F) wz b H.mn left/\(∀p∈left,p∈D.now)/\(s+(left.map fun e=>(Ar D e.2).1.length).sum=usedD D)/\True) (fun ρ wz=>AaE wz b) ⟨D.now,0,rfl,rfl,rfl,rfl,hE,hI11,fun p hp=>hp,Afa _,trivial⟩ ?_;clear hI11;clear hE;rintro v l ⟨left,s,m,T2,f,T3,hE,hI,hsub,htot,-⟩;by_cases i:left= []
 ·refine gS (AbI f hI i (gS (AcB (vs:= [.bool (false)]) rfl rfl (cF rfl (Az rfl T3 ?_)))));exact⟨by rw[i]at htot;rw[<-htot];rfl,hE⟩
 refine gS (AbY f hI i fun a18 y19 rest20 n h hI23 o q x=> ?_);have hm0:=Abk hI;clear hI;have hI:=hI23;clear hI23;have hgi:=MIt.lt hI;have hmem:(a18,y19)∈D.now:=hsub _ (h.mem_iff.2 AeG);have hyl:=hS.ok.now.num _ hmem;have hfl:=hS.files.at_ y19 hyl;have hsum:(left.map fun e=>(Ar D e.2).1.length).sum=(D.files.getD y19 ([],0)).1.length+(rest20.map fun e=>(Ar D e.2).1.length).sum:=Vp _ h;have hfb:=hfl.blk;have hfr:RB w (H.V y19) (D.files.getD y19 ([],0)).1:=Z8 hfl.row;have hE:=Ad hE q (Adu (Adw _) (by omega));refine gS (AcB (vs:= [.bool (true),St (a18), .pointer (some ⟨(H.F y19),0,none⟩)]) rfl rfl (cT rfl (gS (Acf f o (gS (AcB (vs:= [St (a18), .pointer (some ⟨(H.F y19),0,none⟩)]) rfl rfl (gS (AcA rfl (gS (Acy PM rfl (gS (ZN Hv rfl rfl (Ac (eb hE hfb) rfl) (gS (Aae Hv (Aaf (hfr.keep hE) rfl) (gS (ZV (xv:=NI s) (yv:=NI (((D.files.getD y19 ([],0)).1:Ai1).length)) T3 rfl rfl (AF _ _ _ (by have:=hU;rw[hsum]at htot;omega)) (gK (And.intro ⟨rest20,s+(D.files.getD y19 ([],0)).1.length,m,T2,f,rfl,hE,hI,fun p hp=>hsub p (h.mem_iff.2 (AeF _ hp)),by rw[hsum]at htot;exact(Nat.add_assoc _ _ _).trans htot,trivial⟩ ?_))))))))))))))))));show AaE n b<AaE l b;rw[Abk hI,hm0,h.length_eq];simp
section
variable {P : AdM} {K : Adr -> Ads -> Prop} {ρ : Aj} {w : Ads} {d : Option Tmp} {ty : Ady} {pos : String} {af : Array Edge} {gd : Option (Nat × Bool)}
theorem LF(w:Ads)(t tx ty e:Ady)(i:TypeInfo)(z:Adr)(size bytes:Nat)(ht:P.underlying t=some (.slice e))(hi:P.info? e=some i)(hz:i.zero=some z) 
  (hsize:i.size=size) (hby:i.bytes=bytes) (hzs:z.cells.size=size) (a:Addr) (n:Nat) (xs:List Adr) (hxs:xs.length=n*size) (hc:∀j u,xs[j]? =some u->w.cell? (a.add j)=some u)
  (x:Adr) (m:Nat) (news:List Adr) (hs:Src P size tx x m news w) (hm:0<m) (h63:n+m<=maxLen) (hbytes:(n+m)*bytes<=140737488355328):
  ∃v' w',(Builtin.append_ #[t,tx] ty #[.slice (some a) n n,x]).run P w = .ok v' w' /\w'.ownsRow w.heap.size e size v' (n+m) (xs++news)/\Ext w w' :=by
 subst hsize;subst hby
 have hsmall:n+m<=9223372036854775807:=by simp only[maxLen]at h63;omega
 have hl:=hs.newsLen;have hlen:(xs++news).length=(n+m)*i.size:=by rw[Adx,hxs,hl,AeQ]
 have hge:=grownCap_ge w (n+m) n e;have hcm:grownCap w (n+m) n e<=maxLen:=grownCap_le_maxLen w (n+m) n e h63;have hr:=run_append_grow_src (P:=P) w t tx ty e i z ht hi hz (some a) n n xs (run_firstCells_some w.drew i.size n a n n xs hxs (by simpa using hc)) x m news hs (by omega) (by omega) (growslice_fits (by omega) hbytes);refine⟨_,_,hr,⟨hlen, .inr ⟨w.heap.size,_,_,rfl,Adw _,heap_alloc_new w.drew _,hge,hcm,?_,?_⟩⟩,(Aeo _ _).grown ((Adp w (AdI none 0 0)).drew.alloc _).by_ (Adw _) (fun _ e=>by simp[Aec]at e)⟩
 ·simp only[Array.size_append,Ad6,size_zeroCells,hzs,hlen,<-AeQ]
  congr 1
  omega
 ·simp only[Array.toList_append];rw[<-hlen];exact List.take_left
def FullG{α:Type}(k:Nat)(enc:α->List Adr)(w:Ads)(v:Adr)(l:List α):Prop:=(v = .slice none 0 0/\l= [])\/∃a,v = .slice (some a) l.length l.length/\RG k enc w v l
theorem FullG.keep{α:Type}{k:Nat}{enc:α->List Adr}{w w' :Ads}{v:Adr}{l:List α}(h:FullG k enc w v l)(hE:Ext w w'):FullG k enc w' v l:=h.imp id fun⟨a,h1,h2⟩=>⟨a,h1,h2.keep hE⟩
theorem FullG.rg{α:Type}{k:Nat}{enc:α->List Adr}{w:Ads}{v:Adr}{l:List α}(h:FullG k enc w v l):RG k enc w v l:=by
 rcases h with ⟨rfl,rfl⟩ | ⟨a,h1,h2⟩
 ·exact RG.nil _ _ _
 ·exact h2
theorem AaN{α:Type}{k:Nat}{enc:α->List Adr}{t tx e e' :Ady}{z:Adr}{bytes:Nat}(ht:P.underlying t=some (.slice e))(hi:(P.info? e).map (fun i=>(i.zero,i.size,i.bytes))=some (some z,k,bytes))(hzs:z.cells.size=k)(hu:P.underlying tx=some (.slice e')) 
  (h1:∀x:α,∀u∈enc x,u.oneCell' =true) {s x:AdC} {v y:Adr} {l m:List α} (hs:Ab ρ s=v) (h:FullG k enc w v l) (hx:Ab ρ x=y) (hy:RG k enc w y m) (hm:0<m.length) (hlen:(l.length+m.length)*bytes<=140737488355328) (hlen2:l.length+m.length<=maxLen)
  (hk:∀v' w',OG w.heap.size e k enc w' v' (l++m)->Ext w w' ->K v' w'):Yk P K ((execOp (Ab ρ) ⟨d, .call ⟨.builtin .append,#[s,x],#[t,tx]⟩,ty,pos,af,gd⟩).run P w):=by
 obtain⟨i,hi0,hi1⟩:=Option.map_eq_some_iff.1 hi;have hz:i.zero=some z:=congrArg Aet hi1;have hsz:i.size=k:=congrArg (fun q=>q.2.1) hi1;have hby:i.bytes=bytes:=congrArg (fun q=>q.2.2) hi1;have hsrc:Src P k tx y m.length (m.flatMap enc) w:=by
  obtain⟨q1,q2,ao,cap,rfl,q3,q4,q5,q6⟩:=hy;cases ao with
  | none=>exact absurd (q5 rfl).1 (by omega)
  | some a=>exact Src.ofSlice w hu a _ cap _ q2 (q6 a rfl) fun u hu=>let ⟨x,_,hx⟩:=List.mem_flatMap.1 hu;h1 x u hx
 have hlen' :∀ {xs:List α},(∀x∈xs,(enc x).length=k)->(xs.flatMap enc).length=xs.length*k:=fun {xs} hxs=>by
  induction xs with
  | nil=>simp
  | cons a r ih=>rw[Aen,Adx,hxs a AeG,ih fun x hx=>hxs x (AeF _ hx),AdJ,AeQ,Nat.one_mul,Nat.add_comm]
 have hall:∀x∈l++m,(enc x).length=k:=fun x hx=>(Aed.1 hx).elim (h.rg.1 x) (hy.1 x);have fin:∀v' w',(Builtin.append_ #[t,tx] ty #[v,y]).run P w = .ok v' w' ->w'.ownsRow w.heap.size e k v' (l.length+m.length) (l.flatMap enc++m.flatMap enc)->Ext w w' ->Yk P K ((execOp (Ab ρ) ⟨d, .call ⟨.builtin .append,#[s,x],#[t,tx]⟩,ty,pos,af,gd⟩).run P w):=fun v' w' hr ho hE=>by
  refine AcG (v:=v') (w' :=w') ?_ (hk v' w' ⟨hall,by rw[Adx,List.flatMap_append];exact ho⟩ hE);unfold execOp;simp only[resolve,invoke,builtin,AdB,AdF,AdA,AdH,AdK,AdO,hs,hx,hr]
 rcases h with ⟨rfl,rfl⟩ | ⟨a,hv,hr⟩
 ·obtain⟨v',w',hr,ho,hg⟩:=FD (P:=P) w w.heap.size t tx ty e i z k bytes ht hi0 hz hsz hby hzs (.slice none 0 0) 0 [] (Ae7 _ _ _ _) y m.length _ hsrc (by simpa using hlen2) (by simpa using hlen) (Adw _);exact fin v' w' hr (by simpa using ho) ((Aeo _ _).grown hg.by_ (Adw _) fun _ q=>by simp[Aec]at q)
 ·obtain⟨-,q2,ao,cap,q3,-,-,-,q6⟩:=id hr;rw[hv]at q3;cases q3;obtain⟨v',w',hr',ho,hE⟩:=LF (P:=P) (ty:=ty) w t tx e i z k bytes ht hi0 hz hsz hby hzs a l.length _ q2 (q6 a rfl) y m.length _ hsrc hm hlen2 hlen;exact fin v' w' (by rw[hv];exact hr') ho hE
end
theorem Gj:KL Adt 9 (MapKept.IsKey .string):=Abs (by kernel_rfl)
theorem EZ(a:Ai1)(_:Nm a):MapKept.IsKey .string (St a):=trivial
theorem Ix(u:Ads):(zeroValue 112).run Adt u = .ok (.pointer none) u:=by kernel_rfl
def DZ(d:Ak)(ms:List Ai1)(s:Ai1):Except Nat Nat:=if readyL d (ms++ [s])≠0 then .error (readyL d (ms++ [s]))else match lookD d.now s with | some k=> .ok k | none=> .error 4
def Zt(H:Dk):Except Nat Nat->Adr
 | .ok k=>PQ (H.F k) 0
 | .error _=> .pointer none
def Zu:Except Nat Nat->Nat
 | .ok _=>0
 | .error e=>e
theorem Rw{d:Ak}{ms:List Ai1}{s:Ai1}(h:readyL d (ms++ [s])=0):Bq s=true:=by
 unfold readyL at h;split at h
 ·cases h
 ·split at h
  ·rename_i h2
   rw[AhW]at h2;simp only[AdX,Ait,List.all_nil,Bool.and_true]at h2;exact h2.2
  ·cases h
theorem Jv(z:ByteArray)(w:Ads):(Ad0 114 1 #[(0, .string z)]).run Adt w = .ok (.slice (some ⟨w.heap.size,0,none⟩) 1 1) (w.alloc (.cells #[.string z] 9)):=by kernel_rfl
theorem Md:(Tryz.prog.info? 9).map (fun i=>(i.zero,i.size,i.bytes))=some (some (.string ⟨#[]⟩),1,16):=by kernel_rfl
theorem KK:Plain Adt 61:=fun _ _=>by kernel_rfl
theorem MY:Tryz.prog.underlying 112=some (.pointer 120):=by kernel_rfl
theorem Gd(base:Nat)(w:Ads)(H:Dk)(D:Ak)(hS:DkS base w H D)(s:Ai1)(v:Adr)(ms:List Ai1)(hF:FullG 1 Gc w v ms)(hl:ms.length<=1):
  Calls Adt 73 #[PQ H.g 0,St s,v] w fun e w' =>e = .returned (.tuple #[Zt H (DZ D ms s),NI (Zu (DZ D ms s))])/\Ext w w' :=by
 have hb:=hS.blk;have hgl:=(bl hb);refine gG (args:= [PQ H.g 0,St (s),v]) Tryz.func73 rfl 28 rfl rfl ?_;have hE:=Acz w;by_cases c:readyL D (ms++ [s])≠0
 ·have hV:DZ D ms s = .error (readyL D (ms++ [s])):=if_pos c;refine gS (AaH (a:=s) (enc:=Gc) (vr (St (s)) rfl) rfl (fun w=>Jv _ w) fun n w5 o p=> ?_);have hE:=hE.trans p;refine gS (AaN MX Md rfl MX (fun y u hu=>by rw[Aeb.1 hu];rfl) (vr v rfl) (hF.keep hE) (vr n rfl) o (by simp) (by simp;omega) (by simp[maxLen];omega) fun q w9 r t=> ?_);have ak:=hE.size;have hE:=hE.trans t;refine gS (ZR KK rfl rfl ((FH base _ H D (hS.keep hE) q (ms++ [s]) (ZQ r) (by simp;omega)).mono ?_));rintro e al ⟨rfl,x⟩;refine⟨_,rfl,?_⟩;refine gS (ZO (a:=(readyL D (ms++ [s]):Nat)) (b:=(0:Nat)) rfl rfl (AX _ _ _ _) (kT (by omega) (cT rfl (Ei rfl (vr (.pointer none) rfl) (vr (NI (readyL D (ms++ [s]))) rfl) ?_))));have hE:=hE.trans x;exact⟨by rw[hV];rfl,hE⟩
 have z:readyL D (ms++ [s])=0:=Classical.not_not.1 c;have hm:=Rw z;rcases hlk:lookD D.now s with _ | k
 ·have hV:DZ D ms s = .error 4:=by unfold DZ;rw[if_neg c,hlk]
  refine gS (AaH (a:=s) (enc:=Gc) (vr (St (s)) rfl) rfl (fun w=>Jv _ w) fun aa am ab f=> ?_);have hE:=hE.trans f;refine gS (AaN MX Md rfl MX (fun y u hu=>by rw[Aeb.1 hu];rfl) (vr v rfl) (hF.keep hE) (vr aa rfl) ab (by simp) (by simp;omega) (by simp[maxLen];omega) fun ac an ad h=> ?_);have ao:=hE.size;have hE:=hE.trans h;refine gS (ZR KK rfl rfl ((FH base _ H D (hS.keep hE) ac (ms++ [s]) (ZQ ad) (by simp;omega)).mono ?_));rintro e ap ⟨rfl,i⟩;refine⟨_,rfl,?_⟩;have hb:=eb ((f.trans h).trans i) hb;have hE:=hE.trans i;refine gS (ZO (a:=(readyL D (ms++ [s]):Nat)) (b:=(0:Nat)) rfl rfl (AX _ _ _ _) (kF (by omega) (cF rfl (gS (AcA rfl (gS (Acy Rv rfl (gS (ZN OJ rfl rfl (Ac hb rfl) (gS (Abj Gj EZ (fun _ _=>Eb) OJ Ix rfl rfl (hS.keep hE).now (by have:=B6 hm;exact this.2) hlk (gS (Aas MY rfl (kB (rfl) (cT rfl (Ei rfl (vr (.pointer none) rfl) (vr (NI 4) rfl) ?_))))))))))))))));exact⟨by rw[hV];rfl,hE⟩
 have hV:DZ D ms s = .ok k:=by unfold DZ;rw[if_neg c,hlk]
 refine gS (AaH (a:=s) (enc:=Gc) (vr (St (s)) rfl) rfl (fun w=>Jv _ w) fun ae aq af j=> ?_);have hE:=hE.trans j;refine gS (AaN MX Md rfl MX (fun y u hu=>by rw[Aeb.1 hu];rfl) (vr v rfl) (hF.keep hE) (vr ae rfl) af (by simp) (by simp;omega) (by simp[maxLen];omega) fun ag ar ah l=> ?_);have au:=hE.size;have hE:=hE.trans l;refine gS (ZR KK rfl rfl ((FH base _ H D (hS.keep hE) ag (ms++ [s]) (ZQ ah) (by simp;omega)).mono ?_));rintro e av ⟨rfl,m⟩;refine⟨_,rfl,?_⟩;have hb:=eb ((j.trans l).trans m) hb;have hE:=hE.trans m;refine gS (ZO (a:=(readyL D (ms++ [s]):Nat)) (b:=(0:Nat)) rfl rfl (AX _ _ _ _) (kF (by omega) (cF rfl (gS (AcA rfl (gS (Acy Rv rfl (gS (ZN OJ rfl rfl (Ac hb rfl) (gS (AaI Gj EZ (fun _ _=>Eb) OJ Ix rfl rfl (hS.keep hE).now (by have:=B6 hm;exact this.2) hlk (gS (Aas MY rfl (kB (rfl) (cF rfl (Ei rfl (vr (.pointer (some ⟨(H.F k),0,none⟩)) rfl) (vr (NI 0) rfl) ?_))))))))))))))));exact⟨by rw[hV];rfl,hE⟩
theorem Kn{α β:Type}{ek:α->Adr}{ev:β->Adr}{D:α->Prop}{w w' :Ads}{m:Nat}{G:α->Option β}(h:MapF ek ev D w m G)(hg:w.grownBy w' (some m)){b:Nat}{cs:Array Adr}{t:Ady}{fr:Nat × Nat}(hb:w.heap[b]? =some (.cells cs t fr)):w'.heap[b]? =some (.cells cs t fr):=
 kb hg hb fun e=>by obtain⟨es,c,h1,-⟩:=h;rw[e,h1]at hb;cases hb
theorem Xg{ev:Nat->Adr}(w:Ads)(m:Nat)(G:Ai1->Option Nat)(hM:MapF St ev Nm w m (G))(bf bn fk k:Nat)(to:Ai1)(h1:w.heap[bf]? =some (.cells ([PQ fk 0]).toArray 112 (0,0)))(h2:w.heap[bn]? =some (.cells ([St to]).toArray 9 (0,0)))(hev:PQ fk 0=ev k)(ht:Nm to):
  Calls Adt 95 #[.map (some m),PQ bf 0,PQ bn 0] w fun e w' =>e = .returned (.tuple #[])/\MapF St ev Nm w' m (updM G to (some k))/\w.grownBy w' (some m):=by
 have a:=AdZ w (some m);refine gG (args:= [.map (some m),PQ bf 0,PQ bn 0]) Tryz.func95 rfl 7 rfl rfl ?_;have hE:=Acz w;refine gS (ZN E4 rfl rfl (Ac h2 rfl) (gS (ZN MY rfl rfl (Ac h1 rfl) (gS (Abd (ev:=ev) (c:=k) Gj EZ OJ (vr (.map (some m)) rfl) (vr (St (to)) rfl) (Eq.trans ((vr (PQ fk 0) rfl)) hev) (hM.keep hE) ht fun w1 hM2 b f=> ?_)))));have h1:w1.heap[bf]? =some (.cells ([PQ fk 0]).toArray 112 (0,0)):=Kn hM b h1;have h2:w1.heap[bn]? =some (.cells ([St to]).toArray 9 (0,0)):=Kn hM b h2;have a:w.grownBy w1 (some m):=Aa a b (fun _ e=> .inl e);clear hE;have hM:=hM2;clear hM2;refine Gm rfl ?_;exact⟨rfl,hM,a⟩
theorem Yy{ev:Nat->Adr}(w:Ads)(m:Nat)(G:Ai1->Option Nat)(hM:MapF St ev Nm w m (G))(bs bf bn fk k:Nat)(frm to:Ai1)(h3:w.heap[bs]? =some (.cells ([St frm]).toArray 9 (0,0)))(h1:w.heap[bf]? =some (.cells ([PQ fk 0]).toArray 112 (0,0)))(h2:w.heap[bn]? =some (.cells ([St to]).toArray 9 (0,0)))(hev:PQ fk 0=ev k)(hf:Nm frm)(ht:Nm to):
  Calls Adt 127 #[.map (some m),PQ bs 0,PQ bf 0,PQ bn 0] w fun e w' =>e = .returned (.tuple #[])/\MapF St ev Nm w' m (updM (updM G frm none) to (some k))/\w.grownBy w' (some m):=by
 have a:=AdZ w (some m);refine gG (args:= [.map (some m),PQ bs 0,PQ bf 0,PQ bn 0]) Tryz.func127 rfl 10 rfl rfl ?_;have hE:=Acz w;refine gS (ZN E4 rfl rfl (Ac h3 rfl) (gS (AbN Gj EZ (fun _ _=>Eb) OJ rfl rfl (hM.keep hE) hf fun w2 hM3 b h=> ?_)));have h3:w2.heap[bs]? =some (.cells ([St frm]).toArray 9 (0,0)):=Kn hM b h3;have h1:w2.heap[bf]? =some (.cells ([PQ fk 0]).toArray 112 (0,0)):=Kn hM b h1;have h2:w2.heap[bn]? =some (.cells ([St to]).toArray 9 (0,0)):=Kn hM b h2;have a:w.grownBy w2 (some m):=Aa a b (fun _ e=> .inl e);clear hE;have hM:=hM3;clear hM3;refine gS (ZN E4 rfl rfl (Ac h2 rfl) (gS (ZN MY rfl rfl (Ac h1 rfl) (gS (Abd (ev:=ev) (c:=k) Gj EZ OJ (vr (.map (some m)) rfl) (vr (St (to)) rfl) (Eq.trans ((vr (PQ fk 0) rfl)) hev) hM ht fun f hM7 g i=> ?_)))));have h3:f.heap[bs]? =some (.cells ([St frm]).toArray 9 (0,0)):=Kn hM g h3;have h1:f.heap[bf]? =some (.cells ([PQ fk 0]).toArray 112 (0,0)):=Kn hM g h1;have h2:f.heap[bn]? =some (.cells ([St to]).toArray 9 (0,0)):=Kn hM g h2;have a:w.grownBy f (some m):=Aa a g (fun _ e=> .inl e);clear hM;have hM:=hM7;clear hM7;refine Gm rfl ?_;exact⟨rfl,hM,a⟩
theorem Xh{ev:Nat->Adr}(w:Ads)(m:Nat)(G:Ai1->Option Nat)(hM:MapF St ev Nm w m (G))(bs:Nat)(frm:Ai1)(h3:w.heap[bs]? =some (.cells ([St frm]).toArray 9 (0,0)))(hf:Nm frm):
  Calls Adt 120 #[.map (some m),PQ bs 0] w fun e w' =>e = .returned (.tuple #[])/\MapF St ev Nm w' m (updM G frm none)/\w.grownBy w' (some m):=by
 have a:=AdZ w (some m);refine gG (args:= [.map (some m),PQ bs 0]) Tryz.func120 rfl 5 rfl rfl ?_;have hE:=Acz w;refine gS (ZN E4 rfl rfl (Ac h3 rfl) (gS (AbN Gj EZ (fun _ _=>Eb) OJ rfl rfl (hM.keep hE) hf fun w1 hM2 b c=> ?_)));have h3:w1.heap[bs]? =some (.cells ([St frm]).toArray 9 (0,0)):=Kn hM b h3;have a:w.grownBy w1 (some m):=Aa a b (fun _ e=> .inl e);clear hE;have hM:=hM2;clear hM2;refine Gm rfl ?_;exact⟨rfl,hM,a⟩
theorem OL{n:Nat}{l:Bh}(h:DirOk n l)(a:B5)(hn:a.to.length≠0):updM (updM (lookD l) a.frm none) a.to (some a.file)=lookD (turnD l a):=by
 funext t
 rw[look_turn,if_neg hn];unfold updM;rfl
theorem TF{n:Nat}{l:Bh}(h:DirOk n l)(a:B5)(hn:a.to.length≠0)(hf:a.frm= []):updM (lookD l) a.to (some a.file)=lookD (turnD l a):=by
 rw[<-OL h a hn]
 funext t
 unfold updM;by_cases ht:t=a.to
 ·rw[if_pos ht,if_pos ht]
 ·rw[if_neg ht,if_neg ht];by_cases h2:t=a.frm
  ·rw[if_pos h2,h2,hf,h.noEmpty]
  ·rw[if_neg h2]
theorem TG{l:Bh}(a:B5)(hn:a.to= []):updM (lookD l) a.frm none=lookD (turnD l a):=by
 funext t
 rw[look_turn,if_pos (by rw[hn];rfl)];unfold updM;rfl
theorem OM{w:Ads}{F:Nat->Nat}{v:Adr}{a:B5}(h:ActAt w F v a){m n:Nat}{l:Bh}(hM:MapF St (pF F) Nm w m (lookD l))(hl:DirOk n l)(ha:ActOk n a):
  ∃f caps,v = .func (.func f) #[] caps/\Plain Adt f/\Calls Adt f (#[.map (some m)]++caps) w fun e w' =>e = .returned (.tuple #[])/\MapF St (pF F) Nm w' m (lookD (turnD l a))/\w.grownBy w' (some m):=by
 rcases h with ⟨bf,bn,e,h1,h2,h3,h4⟩ | ⟨hm,bs,bf,bn,e,h1,h2,h3,h4⟩ | ⟨bn,e,h1,h2⟩
 ·refine⟨_,_,e,fun _ _=>by kernel_rfl,?_⟩;have:=Xg (ev:=pF F) w m _ hM bf bn (F a.file) a.file a.to h1 h2 rfl (B6 (ha.may h4)).2;rw[TF hl a h4 h3]at this;exact this
 ·refine⟨_,_,e,fun _ _=>by kernel_rfl,?_⟩;have:=Yy (ev:=pF F) w m _ hM bs bf bn (F a.file) a.file a.frm a.to h1 h2 h3 rfl ha.frm (B6 (ha.may h4)).2;rw[OL hl a h4]at this;exact this
 ·refine⟨_,_,e,fun _ _=>by kernel_rfl,?_⟩;have:=Xh (ev:=pF F) w m _ hM bn a.frm h1 ha.frm;rw[TG a h2]at this;exact this
theorem getD_left{α:Type}{l r:List α}{i:Nat}{x:α}(h:i<l.length):(l++r).getD i x=l.getD i x:=by rw[Adz,AeP h,<-Adz]
theorem Ge{α:Type}{l:List α}{a x:α}:(l++ [a]).getD l.length x=a:=by rw[Adz,AeC (Adw _),AhJ];rfl
section
variable {base : Nat} {w w' : Ads} {H : Dk} {D : Ak}
theorem BO{w:Ads}{i j x y:Nat}(h:CV w i=some x)(k:CV w j=some y)(hx:x≠y):i≠j:=fun e=>by rw[e,k]at h;exact hx (AdY h).symm
theorem DkS.turned(h:DkS base w H D){a:B5}(ha:ActOk D.files.length a){v:Adr}(hat:ActAt w H.F v a){vs:List Adr}(hvs:OI base w H.va H.F D.acts vs){va' :Adr} 
  (hc:Chg (fun i=>i=H.mn\/i=H.g\/H.va.ownBlock=some i) w w') (hm:MapF St (pF H.F) Nm w' H.mn (lookD (turnD D.now a)))
  (hb:w'.heap[H.g]? =some (.cells (Ju D.quota H.mn H.ml va' D.refused D.arm D.down).toArray 82 (0,0))) (hr:w'.ownsRow base 113 1 va' (vs++ [v]).length (vs++ [v])):
  DkS base w' { H with va:=va' } (turnedD D a):=by
 have hT:∀i,i<w.heap.size->(i=H.mn\/i=H.g\/H.va.ownBlock=some i)->TyB w i:=fun i _ e=>by
  rcases e with e | e | e
  ·exact e▸Dt (.inl h.now.tag)
  ·exact e▸Dt (.inr (.inl h.tg))
  ·exact Dt (.inr (.inr (.inr (.inr (h.tA e)))))
 have ne0:∀ {i x:Nat},CV w i=some x->x≠0->x≠82+1->x≠113+1->¬(i=H.mn\/i=H.g\/H.va.ownBlock=some i):=fun e h0 h1 h2 q=>by
  rcases q with q | q | q
  ·rw[q,h.now.tag]at e;exact h0 (AdY e).symm
  ·rw[q,h.tg]at e;exact h1 (AdY e).symm
  ·rw[h.tA q]at e;exact h2 (AdY e).symm
 refine⟨hb,hm,h.kept.chg hc fun q=> ?_,h.ne,⟨vs++ [v],hr,?_,fun i hi=> ?_⟩,h.files.chg hc (fun k hk=>⟨ne0 (h.tF hk) (by decide) (by decide) (by decide),fun i hi=>ne0 (h.tV hk hi) (by decide) (by decide) (by decide)⟩),h.ok.turned ha,h.lo⟩
 ·rcases q with q | q | q
  ·exact h.ne q.symm
  ·exact BO h.kept.tag h.tg (by decide) q
  ·exact BO h.kept.tag (h.tA q) (by decide) rfl
 ·show(vs++ [v]).length=(D.acts++ [a]).length;rw[Adx,Adx,hvs.len];rfl
 ·show ActAt w' H.F ((vs++ [v]).getD i undef) ((D.acts++ [a]).getD i _);rw[show(turnedD D a).acts.length=D.acts.length+1 by show(D.acts++ [a]).length=_;simp]at hi;have hl:=hvs.len;by_cases e:i<D.acts.length
  ·rw[getD_left (by omega:i<vs.length),getD_left e];exact(hvs.at_ i e).chg hc hT rfl
  ·obtain rfl:i=D.acts.length:=by omega
   rw[Ge,<-hl,Ge];exact hat.chg hc hT rfl
theorem DkS.synced(h:DkS base w H D){ml' :Nat}(hc:Chg (fun i=>i=H.g) w w')(hn:w.heap.size<=ml')(hm:MapF St (pF H.F) Nm w' ml' (lookD D.now))(h0:base<=w.heap.size) 
  (hb:w'.heap[H.g]? =some (.cells (Ju D.quota H.mn ml' (.slice none 0 0) D.refused D.arm D.down).toArray 82 (0,0))):
  DkS base w' { H with ml:=ml',va:= .slice none 0 0 } { D with kept:=D.now,acts:= [] } :=by
 have ne0:∀ {i x:Nat},CV w i=some x->x≠82+1->i≠H.g:=fun e hx=>BO e h.tg hx;have hlt:=h.now.lt;exact⟨hb,h.now.chg hc (ne0 h.now.tag (by decide)),hm,fun(q:H.mn=ml')=>by omega,⟨[],Ae7 _ _ _ 1,rfl,fun i hi=>absurd hi (Aex _)⟩,
  h.files.chg hc (fun k hk=>⟨ne0 (h.tF hk) (by decide),fun i hi=>ne0 (h.tV hk hi) (by decide)⟩),⟨h.ok.now,h.ok.now,fun a ha=>(by cases ha),h.ok.syn⟩,⟨h.lo.1,h.lo.2.1,Adu h0 hn⟩⟩
structure DkT (base : Nat) (w : Ads) (H : Dk) (D : Ak) (w' : Ads) (H' : Dk) (D' : Ak) : Prop where
 st:DkS base w' H' D'
 g:H'.g=H.g
 chg:Chg (B7 H D.files.length) w w'
 foot:∀i,B7 H' D'.files.length i->B7 H D.files.length i\/w.heap.size<=i
theorem DkT.refl(h:DkS base w H D):DkT base w H D w H D:=⟨h,rfl,Adc _ _,fun _ q=> .inl q⟩
theorem DkT.trans{w2:Ads}{H1 H2:Dk}{D1 D2:Ak}(h:DkT base w H D w' H1 D1)(k:DkT base w' H1 D1 w2 H2 D2):DkT base w H D w2 H2 D2:=
 ⟨k.st,k.g.trans h.g,h.chg.trans k.chg h.foot,fun i q=>(k.foot i q).elim (h.foot i) fun r=> .inr (Adu h.chg.size r)⟩
theorem DkT.keep{w2:Ads}{H1:Dk}{D1:Ak}(h:DkT base w H D w' H1 D1)(k:Ext w' w2):DkT base w H D w2 H1 D1:=⟨h.st.keep k,h.g,h.chg.keep k,h.foot⟩
theorem RB.chg{B:Nat->Prop}{v:Adr}{l:Ai1}(h:RB w v l)(hc:Chg B w w')(hB:l= []\/∀i,v.ownBlock=some i->¬B i):RB w' v l:=by
 obtain⟨h1,ao,cap,rfl,h2,h3,h4,h5⟩:=h;refine⟨h1,ao,cap,rfl,h2,h3,h4,fun a ha j u hu=> ?_⟩;have hl:=h5 a ha j u hu;have hlt:=AeD w _ hl;rcases hB with rfl | hB
 ·simp[Lib.byteCells]at hu
 ·have hn:¬B (a.add j).block:=hB _ (by rw[ha];obtain⟨a1,a2,a3⟩:=a;simp only[Aec,Addr.add];split <;> rfl);have hb:=hc.blk _ hlt hn;unfold World.cell? at hl ⊢;rw[hb];exact hl
theorem DkS.offT(h:DkS base w H D){b:Nat}{cs:Array Adr}{t:Ady}{fr:Nat × Nat}(hb:w.heap[b]? =some (.cells cs t fr))(h1:t≠82)(h2:t≠120)(h3:t≠5)(h4:t≠113):¬B7 H D.files.length b:=fun q=>TyB.off hb h1 h2 h3 h4 (h.foot q).1
theorem DkT.box{H1:Dk}{D1:Ak}(h:DkT base w H D w' H1 D1)(h0:DkS base w H D){b:Nat}{cs:Array Adr}{t:Ady}{fr:Nat × Nat}(hb:w.heap[b]? =some (.cells cs t fr))(h1:t≠82)(h2:t≠120)(h3:t≠5)(h4:t≠113):w'.heap[b]? =some (.cells cs t fr):=
 (h.chg.blk b (bl hb) (h0.offT hb h1 h2 h3 h4)).trans hb
abbrev AcW:=@DkT.box
theorem DkS.setFileT(h:DkS base w H D){k:Nat}(hk:k<D.files.length){v:Adr}{x:Ai1 × Nat}(hx:x.2<=x.1.length)(hc:Chg (fun i=>i=H.F k\/(H.V k).ownBlock=some i) w w')(hf:FileAt base w' (H.F k) v x)(hv:∀i,v.ownBlock=some i->(H.V k).ownBlock=some i\/w.heap.size<=i):
  DkT base w H D w' { H with V:=Bn H.V k v } { D with files:=D.files.set k x } :=
 ⟨h.setFile hk hx hc hf hv,rfl,hc.mono fun i _ e=> .inr (.inr (.inr (.inr ⟨k,hk,e⟩))),fun i hi=>by
  rcases hi with e | e | e | e | ⟨j,hj,e⟩
  ·exact .inl (.inl e)
  ·exact .inl (.inr (.inl e))
  ·exact .inl (.inr (.inr (.inl e)))
  ·exact .inl (.inr (.inr (.inr (.inl e))))
  ·have hj:j<D.files.length:=by have:j<(D.files.set k x).length:=hj;rwa [AfC]at this
   rcases e with e | e
   ·exact .inl (.inr (.inr (.inr (.inr ⟨j,hj, .inl e⟩))))
   ·by_cases ej:j=k
    ·have e:(Bn H.V k v j).ownBlock=some i:=e;rw[ej,BV]at e;exact(hv i e).imp (fun q=> .inr (.inr (.inr (.inr ⟨k,hk, .inr q⟩)))) id
    ·have e:(Bn H.V k v j).ownBlock=some i:=e;rw[HV _ _ ej]at e;exact .inl (.inr (.inr (.inr (.inr ⟨j,hj, .inr e⟩))))⟩
theorem DkS.newFileT(h:DkS base w H D)(hE:Ext w w'){f:Nat}(hf:w.heap.size<=f)(hb:w'.heap[f]? =some (.cells ([.slice none 0 0,NI 0]).toArray 120 (0,0)))(h0:base<=w.heap.size):
  DkT base w H D w' { H with F:=Bn H.F D.files.length f,V:=Bn H.V D.files.length (.slice none 0 0) } { D with files:=D.files++ [([],0)] } :=
 ⟨h.newFile hE hf hb h0,rfl,Ac5 hE,fun i hi=>by
  rcases hi with e | e | e | e | ⟨j,hj,e⟩
  ·exact .inl (.inl e)
  ·exact .inl (.inr (.inl e))
  ·exact .inl (.inr (.inr (.inl e)))
  ·exact .inl (.inr (.inr (.inr (.inl e))))
  ·have hj:j<D.files.length+1:=by have:j<(D.files++ [(([]:Ai1),0)]).length:=hj;rwa [Adx]at this
   by_cases ej:j=D.files.length
   ·rcases e with e | e
    ·have e:i=Bn H.F D.files.length f j:=e;rw[ej,BV]at e;exact .inr (e▸hf)
    ·have e:(Bn H.V D.files.length (.slice none 0 0) j).ownBlock=some i:=e;rw[ej,BV]at e;cases e
   ·have hj' :j<D.files.length:=by omega
    rcases e with e | e
    ·have e:i=Bn H.F D.files.length f j:=e;rw[BF _ _ hj']at e;exact .inl (.inr (.inr (.inr (.inr ⟨j,hj', .inl e⟩))))
    ·have e:(Bn H.V D.files.length (.slice none 0 0) j).ownBlock=some i:=e;rw[BF _ _ hj']at e;exact .inl (.inr (.inr (.inr (.inr ⟨j,hj', .inr e⟩))))⟩
theorem DkS.setBlkT(h:DkS base w H D)(hg:w.grownBy w' (some H.g)){q rf ar:Nat}{dn:Bool}(hb:w'.heap[H.g]? =some (.cells (Ju q H.mn H.ml H.va rf ar dn).toArray 82 (0,0))):DkT base w H D w' H { D with quota:=q,refused:=rf,arm:=ar,down:=dn } :=
 ⟨h.setBlk hg hb,rfl,Aap hg fun i e=> .inl (.inl (AdY e).symm),fun i hi=> .inl hi⟩
theorem DkS.syncedT(h:DkS base w H D){ml' :Nat}(hc:Chg (fun i=>i=H.g) w w')(hn:w.heap.size<=ml')(hm:MapF St (pF H.F) Nm w' ml' (lookD D.now))(h0:base<=w.heap.size) 
  (hb:w'.heap[H.g]? =some (.cells (Ju D.quota H.mn ml' (.slice none 0 0) D.refused D.arm D.down).toArray 82 (0,0))):
  DkT base w H D w' { H with ml:=ml',va:= .slice none 0 0 } { D with kept:=D.now,acts:= [] } :=
 ⟨h.synced hc hn hm h0 hb,rfl,hc.mono fun i _ e=> .inl e,fun i hi=>by
  rcases hi with e | e | e | e | e
  ·exact .inl (.inl e)
  ·exact .inl (.inr (.inl e))
  ·exact .inr ((show i=ml' from e)▸hn)
  ·cases(show(none:Option Nat)=some i from e)
  ·exact .inl (.inr (.inr (.inr (.inr e))))⟩
end
theorem AbO{P:AdM}{K:Adr->Ads->Prop}{ρ:Aj}{w:Ads}{d:Option Tmp}{ty:Ady}{pos:String}{af:Array Edge}{gd:Option (Nat × Bool)}{f:FuncId}{c x:AdC}{v y:Adr}{caps:Array Adr}{R:Ads->Prop}{at_:Array Ady}(hp:Plain P f)(hc:Ab ρ c=v)(hve:v = .func (.func f) #[] caps)(hx:Ab ρ x=y) 
  (h:Calls P f (#[y]++caps) w fun e w' =>e = .returned (.tuple #[])/\R w') (hk:∀w',R w' ->K (.tuple #[]) w'):Yk P K ((execOp (Ab ρ) ⟨d, .call ⟨.value c,#[x],at_⟩,ty,pos,af,gd⟩).run P w):=
 Aaj hp (hc.trans hve) _ (by simp[hx]) (h.mono fun e w' q=>⟨_,q.1,hk w' q.2⟩)
theorem Zd{base:Nat}{w w' :Ads}{H:Dk}{D:Ak}(h:DkS base w H D)(hg:w.grownBy w' (some H.mn)){vs:List Adr}(hr:OG base 113 1 Km w H.va vs):OG base 113 1 Km w' H.va vs:=
 hr.kept hg fun q=>BO h.now.tag (h.tA q) (by decide) rfl
theorem PN{base:Nat}{w w' :Ads}{H:Dk}{D:Ak}(h:DkS base w H D){a:B5}(ha:ActOk D.files.length a){v:Adr}(hat:ActAt w H.F v a){vs:List Adr}(hvs:OI base w H.va H.F D.acts vs){va' :Adr} 
  (hc:Chg (fun i=>i=H.mn\/i=H.g\/H.va.ownBlock=some i) w w') (hm:MapF St (pF H.F) Nm w' H.mn (lookD (turnD D.now a)))
  (hb:w'.heap[H.g]? =some (.cells (Ju D.quota H.mn H.ml va' D.refused D.arm D.down).toArray 82 (0,0))) (hr:w'.ownsRow base 113 1 va' (vs++ [v]).length (vs++ [v]))
  (hv:∀i,va'.ownBlock=some i->H.va.ownBlock=some i\/w.heap.size<=i):DkT base w H D w' { H with va:=va' } (turnedD D a):=
 ⟨h.turned ha hat hvs hc hm hb hr,rfl,hc.mono fun i _ e=>e.elim (fun e=> .inr (.inl e)) fun e=>e.elim .inl fun e=> .inr (.inr (.inr (.inl e))),fun i hi=>by
  rcases hi with e | e | e | e | e
  ·exact .inl (.inl e)
  ·exact .inl (.inr (.inl e))
  ·exact .inl (.inr (.inr (.inl e)))
  ·exact(hv i e).imp (fun e=> .inr (.inr (.inr (.inl e)))) id
  ·exact .inl (.inr (.inr (.inr (.inr e))))⟩
theorem LG:Ax Adt 82 3 3:=fun b o w=>by simp[go_sem]
theorem KM:Tryz.prog.underlying 80=some (.slice 113):=by kernel_rfl
theorem Vq(f:Fn)(a:Array Adr)(c:Array Adr)(w:Ads):(Ad0 80 1 #[(0, .func f a c)]).run Adt w = .ok (.slice (some ⟨w.heap.size,0,none⟩) 1 1) (w.alloc (.cells #[.func f a c] 113)):=by kernel_rfl
theorem dw5_ig113:∃z,(Tryz.prog.info? 113).map (fun i=>(i.zero,i.size,i.bytes))=some (some z,1,8)/\z.cells.size=1:=HM (by kernel_rfl)
theorem TH:(Tryz.prog.info? 80).map (·.size)=some 1:=by kernel_rfl
theorem Me(w0 w:Ads)(b:Ext w0 w)(H:Dk)(D:Ak)(hS:DkS w0.heap.size w H D)(v:Adr)(a:B5)(ha:ActOk D.files.length a)(hat:ActAt w H.F v a)(hn:D.acts.length<1099511627776):
  Calls Adt 94 #[PQ H.g 0,v] w fun e w' =>∃va',e = .returned (.tuple #[])/\DkT w0.heap.size w H D w' { H with va:=va' } (turnedD D a):=by
 have hb:=hS.blk;have hgl:=(bl hb);have hsz0:=b.size;have hmnl:=hS.lo.2.1;have hgl0:=hS.lo.1;have h:=hS;obtain⟨vs,hvs⟩:=hS.acts;have hvl:=hvs.len;have hrow:OG w0.heap.size 113 1 Km w H.va vs:=⟨fun _ _=>rfl,by rw[enV_flat];exact hvs.row⟩;have hvg:H.va.ownBlock≠some H.g:=fun q=>BO hS.tg (hS.tA q) (by decide) rfl;obtain⟨f,caps,hve,hpl,hcl⟩:=OM hat hS.now hS.ok.now ha;refine gG (args:= [PQ H.g 0,v]) Tryz.func94 rfl 20 rfl rfl ?_;have hE:=Acz w;refine gS (AcA rfl (gS (Acy Rv rfl (gS (ZN OJ rfl rfl (Ac hb rfl) (gS (AbO hpl rfl hve rfl hcl fun w2 hR3=> ?_)))))));have hb:w2.heap[H.g]? =some (.cells (Ju (D.quota) (H.mn) (H.ml) (H.va) (D.refused) (D.arm) (D.down)).toArray 82 (0,0)):=Kn hS.now hR3.2 hb;have hrow:OG w0.heap.size 113 1 (Km) w2 H.va vs:=Zd hS hR3.2 hrow;have b:=Ad b hR3.2 (Adu (Adw _) (by omega));clear hE;have hC:Chg (fun i=>i=H.g\/H.va.ownBlock=some i) w2 w2:=Adc _ _;refine gS (AcA rfl (gS (Acy LG rfl (gS (ZN KM rfl rfl (Ac hb rfl) (gS (AaH (a:=(v)) (enc:=Km) (vr v rfl) rfl (fun w=>by rw[hve];exact Vq _ _ _ w) fun t n o k=> ?_)))))));have hC:Chg (fun i=>i=H.g\/H.va.ownBlock=some i) w2 n:=(hC.keep k);have hrow:=hrow.keep k;have b:=b.trans k;refine gS (Aak _ _ w0.heap.size _ 8 KM dw5_ig113.choose_spec.1 dw5_ig113.choose_spec.2 KM (vs) ([(v)]) (AaJ hrow (vr H.va rfl)) (ZU o (vr t rfl)) (fun y hy u hu=>by rw[Aeb.1 hu,Aeb.1 hy,hve];rfl) (by simp;omega) (by simp;omega) b.size fun l p j c=> ?_);have c:Grew n p H.va l:=c;have hb:=eb k hb;have x:OB l H.g:=Cp c hvg (bl hb);have hb:=A0 hb c hvg;have b:=Bz b c hrow.2 (Adw _);have hvf:=fun i e=>(c.fresh i e).imp id (fun q=>Adu (Adu hR3.2.size hC.size) q);have hC:Chg (fun i=>i=H.g\/H.va.ownBlock=some i) w2 p:=Aa8 hC c (fun i e=> .inl (.inr e));clear o;clear hrow;refine gS (AcA rfl (gS (Acy LG rfl (gS (ZS (i:=3) (v:=l) rfl rfl hb (AdD rfl) TH (CY j.2).1 (CY j.2).2 fun m r s z=> ?_)))));clear b;have hC:Chg (fun i=>i=H.g\/H.va.ownBlock=some i) w2 m:=Ac0 hC s (.inl (.inl rfl));clear hb;have hb:=r;clear r;have aa:=bl hb;refine Gm rfl ?_;have hC0:Chg (fun i=>i=H.mn\/i=H.g\/H.va.ownBlock=some i) w m:=((Aap hR3.2 (fun i e=> .inl (.inl (AdY e).symm)):Chg (fun i=>i=H.mn\/i=H.g\/H.va.ownBlock=some i) w w2)).trans hC (fun i e=> .inl (.inr e));have hmf:=hR3.1.chg hC (fun q=>q.elim (fun q=>BO h.now.tag h.tg (by decide) q) (fun q=>BO h.now.tag (h.tA q) (by decide) rfl));have j:=AcC j s x;have hown:m.ownsRow w0.heap.size 113 1 l (vs++ [v]).length (vs++ [v]):=by have:=j.2;rw[enV_flat]at this;exact this
 exact⟨_,rfl,PN h ha hat hvs hC0 hmf hb hown hvf⟩
open Go.Shelf Go.RowKit
def Rx:Go.Shelf.Ren:=⟨fun | 5=>51 | 7=>98 | n=>n,fun | 23=>79 | 25=>9 | 3=>112 | 4=>4 | 20=>20 | n=>n,fun | n=>n⟩
theorem Yz:Go.Proofs.SlLaysW.n5 Adt Rx:= {
  mixed:=by kernel_rfl
  f5:=⟨Tryz.f51.name,by decide,Tryz.func51.trans (congrArg some (by kernel_rfl))⟩
  f7:=Tryz.func98.trans (congrArg some (by kernel_rfl))
  t4:=AgQ
  a4:=AiZ
  z4:=AiO
  v4:=Ah1
  t20:=Tryz.underlying20
  a20:=Tryz.isAgg20
  z20:=Tryz.sizeOf20
  v20:=Tryz.zeroValue20
  t23:=Tryz.underlying79
  a23:=Tryz.isAgg79
  z23:=Tryz.sizeOf79
  v23:=Tryz.zeroValue79 }
def MZ:Go.Shelf.Ren:=⟨fun | 7=>53 | 10=>101 | n=>n,fun | 23=>79 | 26=>9 | 3=>112 | 28=>117 | 0=>0 | 27=>116 | 33=>91 | 4=>4 | n=>n,fun | n=>n⟩
theorem WK:Go.Proofs.SlLaysZ.n7 Adt MZ:= {
  mixed:=by kernel_rfl
  f7:=⟨Tryz.f53.name,by decide,Tryz.func53.trans (congrArg some (by kernel_rfl))⟩
  f10:=⟨Tryz.f101.name,by decide,Tryz.func101.trans (congrArg some (by kernel_rfl))⟩
  t0:=AhL
  a0:=Ai0
  z0:=AiP
  v0:=Ah2
  t4:=AgQ
  a4:=AiZ
  z4:=AiO
  v4:=Ah1
  t23:=Tryz.underlying79
  a23:=Tryz.isAgg79
  z23:=Tryz.sizeOf79
  v23:=Tryz.zeroValue79
  t26:=AgR
  a26:=Aid
  z26:=AhM
  v26:=AgZ
  t27:=Tryz.underlying116
  a27:=Tryz.isAgg116
  z27:=Tryz.sizeOf116
  v27:=Tryz.zeroValue116
  t28:=Tryz.underlying117
  a28:=Tryz.isAgg117
  z28:=Tryz.sizeOf117
  v28:=Tryz.zeroValue117
  t33:=Tryz.underlying91
  a33:=Tryz.isAgg91
  z33:=Tryz.sizeOf91
  v33:=Tryz.zeroValue91 }
def Ko:Go.Shelf.Ren:=⟨fun | 6=>52 | 8=>99 | 9=>100 | 11=>132 | 13=>134 | 12=>133 | 23=>166 | 24=>167 | 14=>157 | 15=>158 | 16=>159 | 17=>160 | 18=>161 | 19=>162 | 20=>163 | 21=>164 | 22=>165 | 25=>197 | 26=>198 | 27=>199 | 28=>200 | 29=>201 | 30=>202 | 31=>214 | n=>n,fun | 26=>9 | 28=>117 | 24=>114 | 0=>0 | 3=>3 | 37=>198 | 48=>234 | 50=>163 | 4=>4 | 40=>227 | 39=>226 | 45=>221 | 5=>5 | 9=>9 | 51=>261 | 55=>265 | 57=>279 | 58=>280 | 33=>91 | n=>n,fun | n=>n⟩
theorem Xi:Go.Proofs.SlLaysZ.n6 Adt Ko:= {
  mixed:=by kernel_rfl
  f6:=⟨Tryz.f52.name,by decide,Tryz.func52.trans (congrArg some (by kernel_rfl))⟩
  f8:=⟨Tryz.f99.name,by decide,Tryz.func99.trans (congrArg some (by kernel_rfl))⟩
  f11:=⟨Tryz.f132.name,by decide,Tryz.func132.trans (congrArg some (by kernel_rfl))⟩
  t0:=AhL
  a0:=Ai0
  z0:=AiP
  v0:=Ah2
  t24:=Ahg
  a24:=Aiv
  z24:=Aii
  v24:=Aht
  t26:=AgR
  a26:=Aid
  z26:=AhM
  v26:=AgZ
  t28:=Tryz.underlying117
  a28:=Tryz.isAgg117
  z28:=Tryz.sizeOf117
  v28:=Tryz.zeroValue117
  i26:=by kernel_rfl }
def TI:Go.Shelf.Ren:=⟨fun | 6=>100 | 8=>134 | 9=>133 | 19=>166 | 20=>167 | 21=>157 | 22=>158 | 23=>159 | 24=>160 | 25=>161 | 26=>162 | 27=>163 | 28=>164 | 29=>165 | 36=>197 | 31=>198 | 32=>199 | 37=>200 | 38=>201 | 39=>202 | 41=>214 | n=>n,fun | 27=>114 | 29=>9 | 3=>3 | 32=>198 | 26=>114 | 0=>0 | 44=>234 | 46=>163 | 4=>4 | 36=>227 | 35=>226 | 41=>221 | 5=>5 | 9=>9 | 53=>261 | 57=>265 | 63=>279 | 64=>280 | n=>n,fun | n=>n⟩
theorem WL:Go.Proofs.SlLaysM.n6 Adt TI:= {
  mixed:=by kernel_rfl
  f6:=⟨Tryz.f100.name,by decide,Tryz.func100.trans (congrArg some (by kernel_rfl))⟩
  f8:=Tryz.func134.trans (congrArg some (by kernel_rfl))
  f9:=⟨Tryz.f133.name,by decide,Tryz.func133.trans (congrArg some (by kernel_rfl))⟩
  f19:=Tryz.func166.trans (congrArg some (by kernel_rfl))
  f20:=Tryz.func167.trans (congrArg some (by kernel_rfl))
  f21:=⟨Tryz.f157.name,by decide,Tryz.func157.trans (congrArg some (by kernel_rfl))⟩
  f22:=⟨Tryz.f158.name,by decide,Tryz.func158.trans (congrArg some (by kernel_rfl))⟩
  f23:=⟨Tryz.f159.name,by decide,Tryz.func159.trans (congrArg some (by kernel_rfl))⟩
  f24:=⟨Tryz.f160.name,by decide,Tryz.func160.trans (congrArg some (by kernel_rfl))⟩
  f25:=⟨Tryz.f161.name,by decide,Tryz.func161.trans (congrArg some (by kernel_rfl))⟩
  f26:=⟨Tryz.f162.name,by decide,Tryz.func162.trans (congrArg some (by kernel_rfl))⟩
  f27:=⟨Tryz.f163.name,by decide,Tryz.func163.trans (congrArg some (by kernel_rfl))⟩
  f28:=⟨Tryz.f164.name,by decide,Tryz.func164.trans (congrArg some (by kernel_rfl))⟩
  f29:=⟨Tryz.f165.name,by decide,Tryz.func165.trans (congrArg some (by kernel_rfl))⟩
  f31:=Tryz.func198.trans (congrArg some (by kernel_rfl))
  f32:=Tryz.func199.trans (congrArg some (by kernel_rfl))
  f36:=⟨Tryz.f197.name,by decide,Tryz.func197.trans (congrArg some (by kernel_rfl))⟩
  f37:=⟨Tryz.f200.name,by decide,Tryz.func200.trans (congrArg some (by kernel_rfl))⟩
  f38:=⟨Tryz.f201.name,by decide,Tryz.func201.trans (congrArg some (by kernel_rfl))⟩
  f39:=⟨Tryz.f202.name,by decide,Tryz.func202.trans (congrArg some (by kernel_rfl))⟩
  f41:=⟨Tryz.f214.name,by decide,Tryz.func214.trans (congrArg some (by kernel_rfl))⟩
  t0:=AhL
  a0:=Ai0
  z0:=AiP
  v0:=Ah2
  t3:=Tryz.underlying3
  a3:=Tryz.isAgg3
  z3:=Tryz.sizeOf3
  v3:=Tryz.zeroValue3
  t4:=AgQ
  a4:=AiZ
  z4:=AiO
  v4:=Ah1
  t5:=Tryz.underlying5
  a5:=Tryz.isAgg5
  z5:=Tryz.sizeOf5
  v5:=Tryz.zeroValue5
  t9:=AgR
  a9:=Aid
  z9:=AhM
  v9:=AgZ
  t26:=Ahg
  a26:=Aiv
  z26:=Aii
  v26:=Aht
  t27:=Ahg
  a27:=Aiv
  z27:=Aii
  v27:=Aht
  t29:=AgR
  a29:=Aid
  z29:=AhM
  v29:=AgZ
  t32:=Tryz.underlying198
  a32:=Tryz.isAgg198
  z32:=Tryz.sizeOf198
  v32:=Tryz.zeroValue198
  t35:=Tryz.underlying226
  a35:=Tryz.isAgg226
  z35:=Tryz.sizeOf226
  v35:=Tryz.zeroValue226
  t36:=Tryz.underlying227
  a36:=Tryz.isAgg227
  z36:=Tryz.sizeOf227
  v36:=Tryz.zeroValue227
  t41:=Tryz.underlying221
  a41:=Tryz.isAgg221
  z41:=Tryz.sizeOf221
  v41:=Tryz.zeroValue221
  t44:=Tryz.underlying234
  a44:=Tryz.isAgg234
  z44:=Tryz.sizeOf234
  v44:=Tryz.zeroValue234
  t46:=Tryz.underlying163
  a46:=Tryz.isAgg163
  z46:=Tryz.sizeOf163
  v46:=Tryz.zeroValue163
  t53:=Tryz.underlying261
  a53:=Tryz.isAgg261
  z53:=Tryz.sizeOf261
  v53:=Tryz.zeroValue261
  t57:=Tryz.underlying265
  a57:=Tryz.isAgg265
  z57:=Tryz.sizeOf265
  v57:=Tryz.zeroValue265
  t63:=Tryz.underlying279
  a63:=Tryz.isAgg279
  z63:=Tryz.sizeOf279
  v63:=Tryz.zeroValue279
  t64:=Tryz.underlying280
  a64:=Tryz.isAgg280
  z64:=Tryz.sizeOf280
  v64:=Tryz.zeroValue280 }
open Go.RowKit Go.Shelf
theorem Jw(w:Ads){F:Nat->Nat}{b:Nat}{G:Ai1->Option Nat}(h:MapF St (pF F) Nm w b G):
  Calls Adt 51 #[.map (some b)] w fun e w' =>∃n,e = .returned (.map (some n))/\w.heap.size<=n/\MapF St (pF F) Nm w' n G/\Ext w w' :=by
 obtain⟨es,c,hb,hI⟩:=h;have h0:=AnyW.maps_Clone Yz b es.toArray c w hb;change Calls _ 51 _ _ _ at h0;refine h0.mono fun e w' ⟨he,hw⟩=>⟨w.heap.size,he,Adw _,⟨es,c,by rw[hw];exact heap_alloc_new _ _,hI⟩,by rw[hw];exact(Aeo _ _).alloc (Adw _) _⟩
theorem YA(m:Nat):AnyZ.SortsIn Adt Ko Fence.wide m:=
 ⟨fun blk off cap ss W hH hblk hsz=>callsIn_wide.2 (AnyM.slices_Sort_string WL blk off cap ss W hH hblk hsz),fun p cap W=>callsIn_wide.2 (AnyM.slices_Sort_string_none WL p cap W)⟩
theorem Vr(w:Ads)(b:Nat):Calls Adt 53 #[.map (some b)] w fun e w' =>e = .returned (.func (.func 101) #[] #[.pointer (some ⟨w.heap.size,0,none⟩)])/\w' =w.alloc (.cells #[.map (some b)] 79):=by
 have h:=AnyZ.keys_in WK Fence.wide 5 trivial rfl (some b) w;exact callsIn_wide.1 h
theorem Ry{n:Nat}{l:Bh}(h:DirOk n l){ss:List Ai1}(hp:ss.Perm (l.map Aet)):ss.mergeSort (fun x y=>decide (x<=y))=l.map Aet:=by
 have h1:=mergeSort_of_perm hp;refine h1.trans (List.mergeSort_of_pairwise ?_);refine h.sort.map _ fun a b q=> ?_;rw[bytesLess_eq,decide_eq_true_eq]at q;simp only[decide_eq_true_eq];exact List.le_of_lt q
set_option maxHeartbeats 1000000 in
theorem Rz(w w2:Ads){F:Nat->Nat}{b n:Nat}{l:Bh}(hw:w2=w.alloc (.cells #[.map (some b)] 79))(h:MapF St (pF F) Nm w b (lookD l))(hl:DirOk n l)(hlen:l.length<1099511627776):
  Calls Adt 52 #[.func (.func 101) #[] #[.pointer (some ⟨w.heap.size,0,none⟩)]] w2 fun e w' =>∃v,e = .returned v/\OG w2.heap.size 9 1 Gc w' v (l.map Aet)/\Ext w2 w' :=by
 subst hw;obtain⟨D0,hown,hperm,hsize⟩:=h.owns (P:=Adt) (k:=9) (by kernel_rfl) (fun a q=>Adu q (by decide)) (keys:=l.map Aet) (Ahs _ (fun a b q e=>by rw[e,Ga]at q;cases q) hl.sort) (fun s=>by
  constructor
  ·intro q;obtain⟨y,hy⟩:=Option.isSome_iff_exists.1 q;exact Aeq.2 ⟨(s,y),E5 hy,rfl⟩
  ·intro q;obtain⟨e,he,rfl⟩:=Aeq.1 q;rw[HU hl.sort he];rfl) (by rw[AeU];simp only[maxLen];omega)
 rw[AeU]at hsize;have hbl:=hown.lt;have hseq:SeqGives Fence.wide 2 Adt 101 #[.pointer (some ⟨w.heap.size,0,none⟩)] encStr (fun ss=>ss.Perm (strKeys D0)) (Maps.size D0) (w.alloc (.cells #[.map (some b)] 79)):=
  AnyZ.keys_gives (ρ:=MZ) { WK with } Fence.wide _ trivial rfl (by omega) w.heap.size b _ D0 _ (by simp) (by simp) (by
   obtain⟨es,clock,hb,Ft,hs,hD⟩:=hown;exact⟨es,clock,(Below.heap_alloc _ _ b hbl).trans hb,Ft,hs,hD⟩)
 have hS:=AnyZ.sorted_in Xi Fence.wide 5 trivial trivial trivial trivial rfl (by omega) (YA _) (enters_of Tryz.func100 (by kernel_rfl) rfl) 101 #[.pointer (some ⟨w.heap.size,0,none⟩)] trivial (enters_of Tryz.func101 (by kernel_rfl) rfl) _ _ (by rw[hsize];simp only[maxLen];omega) (by rw[hsize];omega) _ hseq;refine(callsIn_wide.1 hS).mono fun e w' q=> ?_;obtain⟨v,ss,he,hp,hrow,-,hB⟩:=q;refine⟨v,he,⟨fun _ _=>rfl,?_⟩,hB⟩;have hs:=Ry hl (hp.trans hperm);rw[hs]at hrow;rw[Vl];have hlen:ss.length=(l.map Aet).length:=(hp.trans hperm).length_eq;rw[hlen]at hrow;exact hrow
theorem Xj(w0 w:Ads)(b:Ext w0 w)(H:Dk)(D:Ak)(hS:DkS w0.heap.size w H D)(g:Nat)(hg:H.g=g)(v:Adr)(a:B5)(ha:ActOk D.files.length a)(hat:ActAt w H.F v a)(hn:D.acts.length<1099511627776):
  Calls Adt 94 #[PQ g 0,v] w fun e w' =>∃va',e = .returned (.tuple #[])/\DkT w0.heap.size w H D w' { H with va:=va' } (turnedD D a):=by
 subst hg;exact Me w0 w b H D hS v a ha hat hn
theorem Vs{base:Nat}{w w' :Ads}{H H1:Dk}{D D1:Ak}(h:DkT base w H D w' H1 D1){v:Adr}{b:Ai1}(hr:RB w v b)(ho:b= []\/∀i,v.ownBlock=some i->¬B7 H D.files.length i):b= []\/∀i,v.ownBlock=some i->¬B7 H1 D1.files.length i:=by
 rcases ho with h0 | ho
 ·exact .inl h0
 ·by_cases hb:b= []
  ·exact .inl hb
  ·refine .inr fun i hi q=> ?_;rcases h.foot i q with q | q
   ·exact ho i hi q
   ·have:=RB.lt hr (List.length_pos_iff.2 hb) hi;omega
theorem DkT.ofExt{base:Nat}{w w' :Ads}{H:Dk}{D:Ak}(h:DkS base w H D)(hE:Ext w w'):DkT base w H D w' H D:=⟨h.keep hE,rfl,Ac5 hE,fun _ q=> .inl q⟩
abbrev Ac3:=@DkT.ofExt
theorem Xk{D:Ak}{s b:Ai1}{k:Nat}(h:lookD D.now s=some k):Bj D s b = { D with files:=D.files.set k ((D.files.getD k ([],0)).1++b,(D.files.getD k ([],0)).2) } :=by unfold Bj;rw[h];rfl
theorem Xl{D:Ak}{s b:Ai1}(h:lookD D.now s=none): { turnedD { D with files:=D.files++ [([],0)] } ⟨[],s,D.files.length⟩with files:=(turnedD { D with files:=D.files++ [([],0)] } ⟨[],s,D.files.length⟩).files.set D.files.length (((turnedD { D with files:=D.files++ [([],0)] } ⟨[],s,D.files.length⟩).files.getD D.files.length ([],0)).1++b,((turnedD { D with files:=D.files++ [([],0)] } ⟨[],s,D.files.length⟩).files.getD D.files.length ([],0)).2) } = Bj D s b:=by
 unfold Bj;rw[h];have h1:(turnedD { D with files:=D.files++ [([],0)] } ⟨[],s,D.files.length⟩).files=D.files++ [([],0)]:=rfl;rw[h1,Ge];have h2:(D.files++ [(([]:Ai1),0)]).set D.files.length ([]++b,0)=D.files++ [(b,0)]:=by
  rw[List.set_append_right _ _ (Adw _),AhJ];rfl
 rw[h2];rfl
theorem DS{α:Type}{l:List α}{k:Nat}{d:α}(h:k<l.length):l.getD k d∈l:=by rw[Adz,AdE h];exact Ae3 h
theorem KN:Plain Adt 94:=fun _ _=>by kernel_rfl
theorem PO:Ax Adt 120 1 1:=fun b o w=>by simp[go_sem]
theorem Vt:Plain Adt 51:=fun _ _=>by kernel_rfl
theorem RA:Ax Adt 82 2 2:=fun b o w=>by simp[go_sem]
theorem TJ:(Tryz.prog.info? 79).map (·.size)=some 1:=by kernel_rfl
theorem M0:(Tryz.prog.info? 43).map (·.size)=some 1:=by kernel_rfl
theorem TK{d:Option Tmp}{ty:Ady}{pos:String}{af:Array Edge}{gd:Option (Nat × Bool)}(σ:AdC->Adr)(w:Ads):(execOp σ ⟨d, .alloc 112,ty,pos,af,gd⟩).run Adt w = .ok (.value (PQ w.heap.size 0)) (w.alloc (.cells ([.pointer none]).toArray 112)):=by kernel_rfl
theorem RC:(Tryz.prog.info? 112).map (·.size)=some 1:=by kernel_rfl
theorem Ze(w0 w:Ads)(a:Ext w0 w)(H:Dk)(D:Ak)(hS:DkS w0.heap.size w H D)(bd bs bf bn k:Nat)(s t:Ai1)(hbd:w.heap[bd]? =some (.cells ([PQ H.g 0]).toArray 25 (0,0)))(h3:w.heap[bs]? =some (.cells ([St s]).toArray 9 (0,0)))(h1:w.heap[bf]? =some (.cells ([PQ (H.F k) 0]).toArray 112 (0,0)))(h2:w.heap[bn]? =some (.cells ([St t]).toArray 9 (0,0)))(hk:k<D.files.length)(hs:Bq s=true)(ht:Bq t=true)(hn:D.acts.length<1099511627776):
  Calls Adt 126 #[PQ bd 0,PQ bs 0,PQ bf 0,PQ bn 0] w fun e w' =>∃H',e = .returned (.tuple #[])/\DkT w0.heap.size w H D w' H' (turnedD D ⟨s,t,k⟩):=by
 have hb:=hS.blk;have hgl0:=hS.lo.1;have hsz0:=a.size;refine gG (args:= [PQ bd 0,PQ bs 0,PQ bf 0,PQ bn 0]) Tryz.func126 rfl 7 rfl rfl ?_;have hE:=Acz w;refine gS (ZN Vn rfl rfl (Ac hbd rfl) (gS (Aac (vs:= #[PQ bs 0,PQ bf 0,PQ bn 0]) (by simp only[AdH,AdK,AdO];exact congrArg Ad2 (QD (vr (PQ bs 0) rfl) (vr (PQ bf 0) rfl) (vr (PQ bn 0) rfl))) (gS (ZR KN rfl rfl ((Me w0 _ a H D (hS.keep hE) (.func (.func 127) #[] #[PQ bs 0,PQ bf 0,PQ bn 0]) ⟨s,t,k⟩ ⟨hk,fun _=>ht,(B6 hs).2⟩ (.inr (.inl ⟨trivial,bs,bf,bn,rfl,h3,h1,h2,show t.length≠0 from by have:=(B6 ht).1;omega⟩)) hn).mono ?_))))));rintro e w1 ⟨va2,rfl,hT⟩;refine⟨_,rfl,?_⟩;refine Gm rfl ?_;exact⟨_,rfl,hT⟩
theorem Zf(w0 w:Ads)(a:Ext w0 w)(H:Dk)(D:Ak)(hS:DkS w0.heap.size w H D)(bd bs k:Nat)(s:Ai1)(hbd:w.heap[bd]? =some (.cells ([PQ H.g 0]).toArray 25 (0,0)))(h3:w.heap[bs]? =some (.cells ([St s]).toArray 9 (0,0)))(hk:k<D.files.length)(hs:Bq s=true)(hn:D.acts.length<1099511627776):
  Calls Adt 119 #[PQ bd 0,PQ bs 0] w fun e w' =>∃H',e = .returned (.tuple #[])/\DkT w0.heap.size w H D w' H' (turnedD D ⟨s,[],k⟩):=by
 have hb:=hS.blk;have hgl0:=hS.lo.1;have hsz0:=a.size;refine gG (args:= [PQ bd 0,PQ bs 0]) Tryz.func119 rfl 5 rfl rfl ?_;have hE:=Acz w;refine gS (ZN Vn rfl rfl (Ac hbd rfl) (gS (Aac (vs:= #[PQ bs 0]) (by simp only[AdH,AdK,AdO];exact congrArg Ad2 (FP (vr (PQ bs 0) rfl))) (gS (ZR KN rfl rfl ((Me w0 _ a H D (hS.keep hE) (.func (.func 120) #[] #[PQ bs 0]) ⟨s,[],k⟩ ⟨hk,fun q=>absurd rfl q,(B6 hs).2⟩ (.inr (.inr ⟨bs,rfl,h3,rfl⟩)) hn).mono ?_))))));rintro e w1 ⟨va2,rfl,hT⟩;refine⟨_,rfl,?_⟩;refine Gm rfl ?_;exact⟨_,rfl,hT⟩
theorem Zg(w0 w:Ads)(f:Ext w0 w)(H:Dk)(D:Ak)(hS:DkS w0.heap.size w H D)(bf bd k:Nat)(hbf:w.heap[bf]? =some (.cells ([PQ (H.F k) 0]).toArray 112 (0,0)))(hbd:w.heap[bd]? =some (.cells ([PQ H.g 0]).toArray 25 (0,0)))(hkl:k<D.files.length):
  Calls Adt 96 #[PQ bf 0,PQ bd 0] w fun e w' =>∃H',e = .returned (.tuple #[])/\DkT w0.heap.size w H D w' H' ({ D with files:=D.files.set k ((Ar D k).1,(Ar D k).1.length),kept:=D.now,acts:= [] }):=by
 have hb:=hS.blk;have hgl0:=hS.lo.1;have hsz0:=f.size;have h:=hS;have hbd0:=hbd;have af:bf≠H.F k:=BO (Bu hbf) (hS.tF hkl) (by decide);have ag:bd≠H.F k:=BO (Bu hbd) (hS.tF hkl) (by decide);have ah:H.g≠H.F k:=BO hS.tg (hS.tF hkl) (by decide);have hfa:=h.files.at_ k hkl;have hfb:=hfa.blk;have hfl:=(bl hfb);have hfo:=hfa.row;have hflo:=hfa.lo;have hfv:(H.V k).ownBlock≠some (H.F k):=fun q=>BO (h.tF hkl) (h.tV hkl q) (by decide) rfl;have hfr:RB w (H.V k) (D.files.getD k ([],0)).1:=Z8 hfo;have hC:Chg (fun i=>i=(H.F k)) w w:=Adc _ _;refine gG (args:= [PQ bf 0,PQ bd 0]) Tryz.func96 rfl 21 rfl rfl ?_;have hE:=Acz w;refine gM0 [0,1,2,3,4,5,6,7,8] [8] [] fun w2 j=> ?_;have hC:Chg (fun i=>i=(H.F k)) w w2:=(hC.keep j);have hbf:=eb j hbf;have hfb:=eb j hfb;have hE:=hE.trans j;refine ys (ZN MY rfl rfl (Ac hbf rfl) zz) (ys (ZN MY rfl rfl (Ac hbf rfl) zz) (ys (AcA rfl zz) (ys (Acy PM rfl zz) (ys (ZN Hv rfl rfl (Ac hfb rfl) zz) (ys (Aae Hv (Aaf (hfr.keep hE) rfl) zz) (ys (AcA rfl zz) (ys (Acy PO rfl zz) (yC (ZS (i:=1) (v:=NI (((D.files.getD k ([],0)).1:Ai1).length)) rfl rfl hfb (AdD rfl) DR rfl rfl fun b p r ai=> ?_)))))))));have hC:Chg (fun i=>i=(H.F k)) w b:=Ac0 hC r (.inl rfl);clear hE;clear hfb;have hfb:=p;clear p;have aj:=bl hfb;have hT1:=h.setFileT (x:=((D.files.getD k ([],0)).1,(D.files.getD k ([],0)).1.length)) hkl (Adw _) (hC.mono fun i _ e=> .inl e) ⟨hfb,Dl hC hfo (fun i e q=>hfv (e.trans (congrArg some q))),hflo⟩ (fun i e=> .inl e);have hbd1:=AcW hT1 h hbd0 (by decide) (by decide) (by decide) (by decide);obtain⟨H1,s⟩:∃x,x=({ H with V:=Bn H.V k (H.V k) } :Dk):=⟨_,rfl⟩;obtain⟨D1,hD1⟩:∃x,x=({ D with files:=D.files.set k ((D.files.getD k ([],0)).1,(D.files.getD k ([],0)).1.length) } :Ak):=⟨_,rfl⟩;rw[<-s,<-hD1]at hT1;have y:H1.g=H.g:=by rw[s]
 have c:=hT1.st;have f:=f.trans j;have f:=Ad f r (Adu (Adw _) (by omega));have z:=f;have a:=c.blk;have hgl1:=(bl a);rw[<-y]at hbd1;have hm1:=c.now;have ak:bd≠H1.g:=BO (Bu hbd1) c.tg (by decide);have hgm:H1.g≠H1.mn:=BO c.tg c.now.tag (by decide);have hmn1:=c.now.lt;have hC2:Chg (fun i=>i=H1.g) b b:=Adc _ _;have hg1l:=c.lo.1;refine Ev [0,1,2,3,4,5,6,7,8,9,10,11,12] [6,9,12] [] [0,1] fun w9 l=> ?_;have hC2:Chg (fun i=>i=H1.g) b w9:=(hC2.keep l);have hm1:=hm1.keep l;have a:=eb l a;have hbd1:=eb l hbd1;refine Qa hbd1 ?_;refine yf (fun _ ⟨hbd1,_⟩=>ZN Vn rfl rfl (Ac hbd1 rfl) zz) (yf (fun _ ⟨hbd1,_⟩=>ZN Vn rfl rfl (Ac hbd1 rfl) zz) (ys (ZN Vn rfl rfl (Ac hbd1 rfl) zz) (ys (AcA rfl zz) (ys (Acy Rv rfl zz) (ys (ZN OJ rfl rfl (Ac a rfl) zz) (yI (ZP Vt rfl ((Jw _ hm1).mono ?_))))))));rintro e ab ⟨nm,rfl,hnl,hmm,m⟩;refine⟨_,rfl,?_⟩;have hnl1:b.heap.size<=nm:=Adu hC2.size hnl;have hC2:Chg (fun i=>i=H1.g) b ab:=(hC2.keep m);have hgn:H1.g≠nm:=by omega
 have a:=eb m a;have hbd1:=eb m hbd1;refine⟨⟨hbd1,trivial⟩,?_⟩;refine ys (AcA rfl zz) (ys (Acy RA rfl zz) (yI (ZS (i:=2) (v:= .map (some nm)) rfl rfl a (AdD rfl) TJ rfl rfl fun ac t n al=> ?_)));have hm1:=hm1.keep m;have hm1:=AcR hm1 n (CI (by omega));have hC2:Chg (fun i=>i=H1.g) b ac:=Ac0 hC2 n (.inl rfl);have hmm:=AcR hmm n (CI (by omega));clear a;have a:=t;clear t;have am:=bl a;have hbd1:=kb n hbd1 (by omega);refine⟨⟨hbd1,trivial⟩,?_⟩;refine ys (AcA rfl zz) (ys (Acy LG rfl zz) (yD rfl (ZS (i:=3) (v:=(AdI none 0 0)) rfl rfl a (AdD rfl) TH rfl rfl fun ad u o an=> ?_)));have hm1:=AcR hm1 o (CI (by omega));have hC2:Chg (fun i=>i=H1.g) b ad:=Ac0 hC2 o (.inl rfl);have hmm:=AcR hmm o (CI (by omega));clear a;have a:=u;clear u;have ao:=bl a;refine Gm rfl ?_;have ae:=a;have hT2:=c.syncedT hC2 hnl1 hmm z.size ae;exact⟨_,rfl,by have:=hT1.trans hT2;rw[hD1]at this;exact this⟩
theorem Zh(w0 w:Ads)(c:Ext w0 w)(H:Dk)(D:Ak)(hS:DkS w0.heap.size w H D)(bd bn bb:Nat)(s b:Ai1)(vb:Adr)(hbd:w.heap[bd]? =some (.cells ([PQ H.g 0]).toArray 25 (0,0)))(hbn:w.heap[bn]? =some (.cells ([St s]).toArray 9 (0,0)))(hbb:w.heap[bb]? =some (.cells ([vb]).toArray 43 (0,0)))(hrb:RB w vb b)(hoff:b= []\/∀i,vb.ownBlock=some i->¬B7 H D.files.length i)(hs:Bq s=true)(hbl:b.length<1099511627776)(hfs:∀x∈D.files,x.1.length<1099511627776)(hn:D.acts.length<1099511627776)(k:Nat)(hlk:lookD D.now s=some k):
  Calls Adt 93 #[PQ bd 0,PQ bn 0,PQ bb 0] w fun e w' =>∃H',e = .returned (.tuple #[])/\DkT w0.heap.size w H D w' H' (Bj D s b):=by
 have hb:=hS.blk;have hgl0:=hS.lo.1;have hsz0:=c.size;have aa:=hS;have hrb0:=hrb;have ab:=c;have hT12:=DkT.refl hS;have hkl:=(hS.ok.now.look hlk).1;have hlb:=hfs _ (DS (d:=([],0)) hkl);refine gG (args:= [PQ bd 0,PQ bn 0,PQ bb 0]) Tryz.func93 rfl 32 rfl rfl ?_;have hE:=Acz w;refine gM0 [0,1,2,3,4,5,6] [] [] fun u h=> ?_;have hT12:DkT w0.heap.size w H D u H D:=(hT12.keep h);have hb:=eb h hb;have hbd:=eb h hbd;have hbn:=eb h hbn;refine ys (ZN Vn rfl rfl (Ac hbd rfl) zz) (ys (AcA rfl zz) (ys (Acy Rv rfl zz) (ys (ZN OJ rfl rfl (Ac hb rfl) zz) (ys (ZN E4 rfl rfl (Ac hbn rfl) zz) (ys (AaI Gj EZ (fun _ _=>Eb) OJ Ix rfl rfl hT12.st.now (B6 hs).2 hlk zz) (ys (Aas MY rfl zz) (kB (rfl) (cF rfl (gM0 [0,1,2,3,4,5,6] [] [] fun f j=> ?_)))))))));have hT12:DkT w0.heap.size w H D f H D:=(hT12.keep j);have hb:=eb j hb;have hbd:=eb j hbd;have hbn:=eb j hbn;refine ys (ZN Vn rfl rfl (Ac hbd rfl) zz) (ys (AcA rfl zz) (ys (Acy Rv rfl zz) (ys (ZN OJ rfl rfl (Ac hb rfl) zz) (ys (ZN E4 rfl rfl (Ac hbn rfl) zz) (ys (AaI Gj EZ (fun _ _=>Eb) OJ Ix rfl rfl hT12.st.now (B6 hs).2 hlk zz) ?_)))));have hTc:=hT12;have hSc:=hTc.st;have hfa:=hSc.files.at_ k hkl;have hfb:=hfa.blk;have hfl:=(bl hfb);have hfo:=hfa.row;have hflo:=hfa.lo;have hfv:(H.V k).ownBlock≠some (H.F k):=fun q=>BO (hSc.tF hkl) (hSc.tV hkl q) (by decide) rfl;have hC:Chg (fun i=>i=(H.F k)\/(H.V k).ownBlock=some i) f f:=Adc _ _;have hsy:=hSc.ok.syn _ (DS (d:=([],0)) hkl);have hZ1:=h.trans j;have hbb:=eb hZ1 hbb;have hvb:Aec (H.V k)≠some bb:=fun q=>BO (Bu hbb) (hSc.tV hkl q) (by decide) rfl;have ac:bb≠(H.F k):=BO (Bu hbb) (hSc.tF hkl) (by decide);refine gM0 [0,1,2,3,4,5,6,7,8,9] [6,9] [] fun o l=> ?_;have hC:Chg (fun i=>i=(H.F k)\/(H.V k).ownBlock=some i) f o:=(hC.keep l);have hZ2:=hZ1.trans l;have hE:=hE.trans hZ2;have c:=c.trans hZ2;have hbb:=eb l hbb;have hfb:=eb l hfb;have hfo:=AcU _ _ _ _ _ _ _ _ hfo l;refine ys (AcA rfl zz) (ys (Acy PM rfl zz) (ys (ZN Hv rfl rfl (Ac hfb rfl) zz) (ys (ZN Hv rfl rfl (Ac hbb rfl) zz) (yC (AaA _ _ w0.heap.size (.int .u8 0) Hv QE rfl Hv ((D.files.getD k ([],0)).1) (b) (Hu hfo (vr (H.V k) rfl)) (Aaf (hrb.keep hE) (vr vb rfl)) (by omega) c.size fun n p m a=> ?_)))));have a:Grew o p (H.V k) n:=a;have y:Aec n≠some (H.F k):=Cp a hfv (bl hfb);have hbb:=A0 hbb a hvb;clear hE;have c:=Bz c a hfo (Adw _);have hfb:=A0 hfb a hfv;have hvf:=fun i e=>(a.fresh i e).imp id (fun q=>Adu hC.size q);have hC:Chg (fun i=>i=(H.F k)\/(H.V k).ownBlock=some i) f p:=Aa8 hC a (fun i e=> .inl (.inr e));clear hfo;refine ys (AcA rfl zz) (ys (Acy PM rfl zz) (yC (ZS (i:=0) (v:=n) rfl rfl hfb (AdD rfl) M0 (CY m).1 (CY m).2 fun z r t ad=> ?_)));have hC:Chg (fun i=>i=(H.F k)\/(H.V k).ownBlock=some i) f z:=Ac0 hC t (.inl (.inl rfl));clear hfb;have hfb:=r;clear r;have ae:=bl hfb;refine Gm rfl ?_;have m:=E2 m t y;have hTf:=hSc.setFileT (x:=((D.files.getD k ([],0)).1++b,(D.files.getD k ([],0)).2)) hkl (by simp only[Adx];omega) hC ⟨hfb,(show Aiw _ _ _ _ _ _ _ from by simpa using m),hflo⟩ hvf;exact⟨_,rfl,by rw[Xk hlk];exact hTc.trans hTf⟩
theorem Zi(w0 w:Ads)(a:Ext w0 w)(H:Dk)(D:Ak)(hS:DkS w0.heap.size w H D)(bd bn bb:Nat)(s b:Ai1)(vb:Adr)(hbd:w.heap[bd]? =some (.cells ([PQ H.g 0]).toArray 25 (0,0)))(hbn:w.heap[bn]? =some (.cells ([St s]).toArray 9 (0,0)))(hbb:w.heap[bb]? =some (.cells ([vb]).toArray 43 (0,0)))(hrb:RB w vb b)(hoff:b= []\/∀i,vb.ownBlock=some i->¬B7 H D.files.length i)(hs:Bq s=true)(hbl:b.length<1099511627776)(hfs:∀x∈D.files,x.1.length<1099511627776)(hn:D.acts.length<1099511627776)(hlk:lookD D.now s=none):
  Calls Adt 93 #[PQ bd 0,PQ bn 0,PQ bb 0] w fun e w' =>∃H',e = .returned (.tuple #[])/\DkT w0.heap.size w H D w' H' (Bj D s b):=by
 have hb:=hS.blk;have hgl0:=hS.lo.1;have hsz0:=a.size;have ap:=hS;have hrb0:=hrb;have aq:=a;have hT12:=DkT.refl hS;refine gG (args:= [PQ bd 0,PQ bn 0,PQ bb 0]) Tryz.func93 rfl 32 rfl rfl ?_;have hE:=Acz w;refine gM0 [0,1,2,3,4,5,6] [] [] fun w3 j=> ?_;have hT12:DkT w0.heap.size w H D w3 H D:=(hT12.keep j);have hb:=eb j hb;have hbd:=eb j hbd;have hbn:=eb j hbn;refine ys (ZN Vn rfl rfl (Ac hbd rfl) zz) (ys (AcA rfl zz) (ys (Acy Rv rfl zz) (ys (ZN OJ rfl rfl (Ac hb rfl) zz) (ys (ZN E4 rfl rfl (Ac hbn rfl) zz) (ys (Abj Gj EZ (fun _ _=>Eb) OJ Ix rfl rfl hT12.st.now (B6 hs).2 hlk zz) (ys (Aas MY rfl zz) (kB (rfl) (cT rfl (gS (Ac1 (v:= .agg #[.slice none 0 0,NI 0]) (by kernel_rfl) ?_))))))))));have hE:=hE.trans j;have hzb:=hE.size;refine gS (AcP (cs:=([.slice none 0 0,NI 0]:List Adr).toArray) (show _=(.agg ([.slice none 0 0,NI 0]:List Adr).toArray:Adr)from rfl) fun m w7 a0 ag aa a1=> ?_);have c:=Acz w3;have a:=a.trans j;have a2:=hE.size;have a3:=a.size;have ab:=ag;clear ag;have a4:m<w7.heap.size:=by omega
 refine gS (AcH TK fun n ar a5 ah y a6=> ?_);have o:=Acz w7;have hE:=hE.trans aa;have a:=a.trans aa;have c:=c.trans aa;have au:=hE.size;have av:=a.size;have p:=ah;clear ah;have a7:n<ar.heap.size:=by omega
 refine gS (ZS (i:=0) (v:=PQ m 0) rfl rfl p (AdD rfl) RC rfl rfl fun a8 ai z a9=> ?_);clear p;have p:=ai;clear ai;have ba:=bl p;have aw:=c.size;have c:=c.trans y;have c:=Ad c z (Adu aw (by omega));have hbd:=eb c hbd;refine gS (ZN Vn rfl rfl (Ac hbd rfl) (gS (Aac (vs:= #[PQ n 0,PQ bn 0]) (by simp only[AdH,AdK,AdO];exact congrArg Ad2 (Cj (vr (PQ n 0) rfl) (vr (PQ bn 0) rfl))) ?_)));have o:=o.trans y;have o:=Ad o z (Adu (Adw _) (by omega));have ab:=eb o ab;have hE:=hE.trans y;have hE:=Ad hE z (Adu au (by omega));have hT1:=ap.newFileT (f:=m) hE (by omega) ab aq.size;obtain⟨H1,ac⟩:∃x,x=({ H with F:=Bn H.F D.files.length m,V:=Bn H.V D.files.length (.slice none 0 0) } :Dk):=⟨_,rfl⟩;obtain⟨D1,hD1⟩:∃x,x=({ D with files:=D.files++ [([],0)] } :Ak):=⟨_,rfl⟩;rw[<-ac,<-hD1]at hT1;have r:=hT1.st;have aj:H1.g=H.g:=by rw[ac]
 have hF1:H1.F D.files.length=m:=by rw[ac];exact BV _ _ _
 have hD1l:D1.files.length=D.files.length+1:=by rw[hD1];simp
 have hsl:=(B6 hs).1;have hbd1:=hbd;have hbn:=eb c hbn;have hbn1:=hbn;have hbb:=eb (j.trans c) hbb;have hbb1:=hbb;have hrb1:=(hrb.keep hE);have a:=a.trans y;have a:=Ad a z (Adu av (by omega));refine gS (ZR KN rfl rfl ((Xj w0 _ a H1 D1 r H.g aj (.func (.func 95) #[] #[PQ n 0,PQ bn 0]) ⟨[],s,D.files.length⟩ ⟨by rw[hD1l];exact Nat.lt_succ_self _,fun _=>hs,AdN _⟩ (.inl ⟨n,bn,rfl,by rw[hF1];exact p,hbn,rfl,show s.length≠0 from by omega⟩) (by rw[hD1];exact hn)).mono ?_));rintro e bc ⟨va2,rfl,hT2⟩;refine⟨_,rfl,?_⟩;have a:=Chg.ext a hT2.chg (fun i q=>(r.foot q).2.2);have hT12:=hT1.trans hT2;obtain⟨H2,ak⟩:∃x,x=({ H1 with va:=va2 } :Dk):=⟨_,rfl⟩;obtain⟨D2,hD2⟩:∃x,x=turnedD D1 ⟨[],s,D.files.length⟩:=⟨_,rfl⟩;rw[<-ak,<-hD2]at hT12;have ax:H2.g=H.g:=by rw[ak];exact aj
 have hlk2:lookD D2.now s=some D.files.length:=by rw[hD2];exact(look_turn _ _ _).trans ((if_neg (show s.length≠0 by omega)).trans (if_pos rfl))
 have hkl:=(hT12.st.ok.now.look hlk2).1;have hlb:(D2.files.getD D.files.length ([],0)).1.length<1099511627776:=by rw[hD2,hD1];show((D.files++ [(([]:Ai1),0)]).getD D.files.length ([],0)).1.length<_;rw[Ge];decide
 have hoff1:=Vs hT1 hrb0 hoff;have hbd:=AcW hT2 r hbd1 (by decide) (by decide) (by decide) (by decide);have hbn:=AcW hT2 r hbn1 (by decide) (by decide) (by decide) (by decide);have hbb:=AcW hT2 r hbb1 (by decide) (by decide) (by decide) (by decide);have hrb:=hrb1.chg hT2.chg hoff1;have hb:=eb c hb;have hb:=hT12.st.blk;rw[ax]at hb;have hgl2:=(bl hb);refine gM0 [0,1,2,3,4,5,6] [] [] fun k l=> ?_;have hT12:DkT w0.heap.size w H D k H2 D2:=(hT12.keep l);have hb:=eb l hb;have hbd:=eb l hbd;have hbn:=eb l hbn;refine ys (ZN Vn rfl rfl (Ac hbd rfl) zz) (ys (AcA rfl zz) (ys (Acy Rv rfl zz) (ys (ZN OJ rfl rfl (Ac hb rfl) zz) (ys (ZN E4 rfl rfl (Ac hbn rfl) zz) (ys (AaI Gj EZ (fun _ _=>Eb) OJ Ix rfl rfl hT12.st.now (B6 hs).2 hlk2 zz) ?_)))));have hTc:=hT12;have hSc:=hTc.st;have hfa:=hSc.files.at_ (D.files.length) hkl;have hfb:=hfa.blk;have hfl:=(bl hfb);have hfo:=hfa.row;have hflo:=hfa.lo;have hfv:(H2.V (D.files.length)).ownBlock≠some (H2.F (D.files.length)):=fun q=>BO (hSc.tF hkl) (hSc.tV hkl q) (by decide) rfl;have hC:Chg (fun i=>i=(H2.F (D.files.length))\/(H2.V (D.files.length)).ownBlock=some i) k k:=Adc _ _;have hsy:=hSc.ok.syn _ (DS (d:=([],0)) hkl);have hbb:=eb l hbb;have hvb:Aec (H2.V (D.files.length))≠some bb:=fun q=>BO (Bu hbb) (hSc.tV hkl q) (by decide) rfl;have be:bb≠(H2.F (D.files.length)):=BO (Bu hbb) (hSc.tF hkl) (by decide);refine gM0 [0,1,2,3,4,5,6,7,8,9] [6,9] [] fun al t=> ?_;have hC:Chg (fun i=>i=(H2.F (D.files.length))\/(H2.V (D.files.length)).ownBlock=some i) k al:=(hC.keep t);have hZ1:=l.trans t;have a:=a.trans hZ1;have hrb:=hrb.keep hZ1;have hbb:=eb t hbb;have hfb:=eb t hfb;have hfo:=AcU _ _ _ _ _ _ _ _ hfo t;refine ys (AcA rfl zz) (ys (Acy PM rfl zz) (ys (ZN Hv rfl rfl (Ac hfb rfl) zz) (ys (ZN Hv rfl rfl (Ac hbb rfl) zz) (yC (AaA _ _ w0.heap.size (.int .u8 0) Hv QE rfl Hv ((D2.files.getD (D.files.length) ([],0)).1) (b) (Hu hfo (vr (H2.V (D.files.length)) rfl)) (Aaf hrb (vr vb rfl)) (by omega) a.size fun ad am u h=> ?_)))));have h:Grew al am (H2.V (D.files.length)) ad:=h;have ay:Aec ad≠some (H2.F (D.files.length)):=Cp h hfv (bl hfb);have a:=Bz a h hfo (Adw _);have hbb:=A0 hbb h hvb;clear hrb;have hfb:=A0 hfb h hfv;have hvf:=fun i e=>(h.fresh i e).imp id (fun q=>Adu hC.size q);have hC:Chg (fun i=>i=(H2.F (D.files.length))\/(H2.V (D.files.length)).ownBlock=some i) k am:=Aa8 hC h (fun i e=> .inl (.inr e));clear hfo;refine ys (AcA rfl zz) (ys (Acy PM rfl zz) (yC (ZS (i:=0) (v:=ad) rfl rfl hfb (AdD rfl) M0 (CY u).1 (CY u).2 fun az an ao bf=> ?_)));have hC:Chg (fun i=>i=(H2.F (D.files.length))\/(H2.V (D.files.length)).ownBlock=some i) k az:=Ac0 hC ao (.inl (.inl rfl));clear hfb;have hfb:=an;clear an;have bg:=bl hfb;refine Gm rfl ?_;have u:=E2 u ao ay;have hTf:=hSc.setFileT (x:=((D2.files.getD (D.files.length) ([],0)).1++b,(D2.files.getD (D.files.length) ([],0)).2)) hkl (by simp only[Adx];omega) hC ⟨hfb,(show Aiw _ _ _ _ _ _ _ from by simpa using u),hflo⟩ hvf;exact⟨_,rfl,by rw[<-Xl hlk];have:=hTc.trans hTf;rw[hD2,hD1]at this;exact this⟩
theorem AbP{P:AdM}{K:Adr->Ads->Prop}{ρ:Aj}{w:Ads}{d:Option Tmp}{ty:Ady}{pos:String}{af:Array Edge}{gd:Option (Nat × Bool)}{f:FuncId}{c:AdC}{v:Adr}{caps:Array Adr}{R:Ads->Prop}{at_:Array Ady}(hp:Plain P f)(hc:Ab ρ c=v)(hve:v = .func (.func f) #[] caps) 
  (h:Calls P f caps w fun e w' =>e = .returned (.tuple #[])/\R w') (hk:∀w',R w' ->K (.tuple #[]) w'):Yk P K ((execOp (Ab ρ) ⟨d, .call ⟨.value c,#[],at_⟩,ty,pos,af,gd⟩).run P w):=
 Aaj hp (hc.trans hve) _ (by simp) (h.mono fun e w' q=>⟨_,q.1,hk w' q.2⟩)
theorem Dh:Ax Adt 82 5 5:=fun b o w=>by simp[go_sem]
theorem Vu:(Tryz.prog.info? 4).map (·.size)=some 1:=by kernel_rfl
theorem LH(w0 w:Ads)(l:Ext w0 w)(H:Dk)(D:Ak)(hS:DkS w0.heap.size w H D)(hdn:D.down=false)(har:D.arm<9223372036854775808)(v:Adr)(f:FuncId)(caps:Array Adr)(hpl:Plain Adt f)(hve:v = .func (.func f) #[] caps)(g:Ak->Ak) 
  (hc:∀w1 D1,DkT w0.heap.size w H D w1 H D1->D1=(Cd D).1->Calls Adt f caps w1 fun e w' =>e = .returned (.tuple #[])/\∃H',DkT w0.heap.size w1 H D1 w' H' (g D1)):
  Calls Adt 92 #[PQ H.g 0,v] w fun e w' =>∃H',e = .returned (NI (DA D g).2)/\DkT w0.heap.size w H D w' H' (DA D g).1:=by
 have hb:=hS.blk;have hgl:=(bl hb);have hgl0:=hS.lo.1;have hsz0:=l.size;have c:=hS;have hgr:=AdZ w (some H.g);refine gG (args:= [PQ H.g 0,v]) Tryz.func92 rfl 27 rfl rfl ?_;have hE:=Acz w;by_cases ha0:D.arm=0
 ·have hA:Cd D=(D,false):=if_pos ha0;have hV:DA D g=(g D,0):=by unfold DA;rw[hA];rfl
  refine gS (AcA rfl (gS (Acy Dh rfl (gS (ZN Oa rfl rfl (Ac hb rfl) (gS (ZO (a:=(D.arm:Nat)) (b:=(0:Nat)) rfl rfl (CM _ _ _ _) (kF (by omega) (cF rfl ?_)))))))));have hT1:=Ac3 c hE;have hD1:D=(Cd D).1:=by rw[hA]
  refine gS (AbP hpl rfl hve (hc _ _ hT1 hD1) fun s hR6=> ?_);obtain⟨H3,hT2⟩:=hR6;have hT3:=hT1.trans hT2;refine Az rfl (vr (NI 0) rfl) ?_;exact⟨H3,by rw[hV],by rw[hV];exact hT3⟩
 have hA:Cd D=({ D with arm:=D.arm-1,down:=decide (D.arm-1=0) },decide (D.arm-1=0)):=if_neg ha0;by_cases ha1:D.arm-1=0
 ·rw[decide_eq_true ha1]at hA;have hV:DA D g=({ D with arm:=D.arm-1,down:=true },9):=by unfold DA;rw[hA];rfl
  refine gS (AcA rfl (gS (Acy Dh rfl (gS (ZN Oa rfl rfl (Ac hb rfl) (gS (ZO (a:=(D.arm:Nat)) (b:=(0:Nat)) rfl rfl (CM _ _ _ _) (kT (by omega) (cT rfl (gS (AcA rfl (gS (Acy Dh rfl (gS (ZN Oa rfl rfl (Ac hb rfl) (gS (ZV (xv:=NI D.arm) (yv:=NI 1) rfl rfl rfl (FE _ _ _ (by omega) (by omega)) (gS (AcA rfl (gS (Acy Dh rfl (gS (ZS (i:=5) (v:=NI ((D.arm)-(1))) rfl rfl hb (AdD rfl) DR rfl rfl fun m h n t=> ?_)))))))))))))))))))))));have hgr:w.grownBy m (some H.g):=Aa hgr n (fun _ e=> .inl e);clear hE;clear hb;have hb:=h;clear h;have u:=bl hb;refine gS (AcA rfl (gS (Acy Dh rfl (gS (ZN Oa rfl rfl (Ac hb rfl) (gS (ZO (a:=((D.arm)-(1):Nat)) (b:=(0:Nat)) rfl rfl (AI _ _ _ _) (kT (by omega) (cT rfl (gS (AcA rfl (gS (Acy Ru rfl (gS (ZS (i:=6) (v:= .bool (true)) rfl rfl hb (AdD rfl) Vu rfl rfl fun o j p x=> ?_)))))))))))))));have hgr:w.grownBy o (some H.g):=Aa hgr p (fun _ e=> .inl e);clear hb;have hb:=j;clear j;have y:=bl hb;refine Az rfl (vr (NI 9) rfl) ?_;exact⟨H,by rw[hV],by rw[hV];exact c.setBlkT hgr hb⟩
 rw[decide_eq_false ha1]at hA;have hV:DA D g=(g { D with arm:=D.arm-1,down:=false },0):=by unfold DA;rw[hA];rfl
 refine gS (AcA rfl (gS (Acy Dh rfl (gS (ZN Oa rfl rfl (Ac hb rfl) (gS (ZO (a:=(D.arm:Nat)) (b:=(0:Nat)) rfl rfl (CM _ _ _ _) (kT (by omega) (cT rfl (gS (AcA rfl (gS (Acy Dh rfl (gS (ZN Oa rfl rfl (Ac hb rfl) (gS (ZV (xv:=NI D.arm) (yv:=NI 1) rfl rfl rfl (FE _ _ _ (by omega) (by omega)) (gS (AcA rfl (gS (Acy Dh rfl (gS (ZS (i:=5) (v:=NI ((D.arm)-(1))) rfl rfl hb (AdD rfl) DR rfl rfl fun q k r z=> ?_)))))))))))))))))))))));have hgr:w.grownBy q (some H.g):=Aa hgr r (fun _ e=> .inl e);clear hE;clear hb;have hb:=k;clear k;have aa:=bl hb;refine gS (AcA rfl (gS (Acy Dh rfl (gS (ZN Oa rfl rfl (Ac hb rfl) (gS (ZO (a:=((D.arm)-(1):Nat)) (b:=(0:Nat)) rfl rfl (AI _ _ _ _) (kF (by omega) (cF rfl ?_)))))))));have hT1:=c.setBlkT hgr hb;have hD1:({ D with quota:=D.quota,refused:=D.refused,arm:=D.arm-1,down:=D.down } :Ak)=(Cd D).1:=by rw[hA,hdn]
 refine gS (AbP hpl rfl hve (hc _ _ hT1 hD1) fun ab hR35=> ?_);obtain⟨H3,hT2⟩:=hR35;have hT3:=hT1.trans hT2;refine Az rfl (vr (NI 0) rfl) ?_;exact⟨H3,by rw[hV],by rw[hV];rw[<-hdn];exact hT3⟩
structure EV (D : Ak) : Prop where
 quota:D.quota<=1073741824
 used:usedD D<4611686018427387904
 refused:D.refused<4611686018427387904
 arm:D.arm<9223372036854775808
 acts:D.acts.length<1099511627776
 now:D.now.length<1099511627776
 kept:D.kept.length+D.acts.length<1099511627776
 files:∀x∈D.files,x.1.length<1099511627776
theorem ON(D:Ak)(s t:Ai1):readyL D [t,s]=CU D s t:=by
 unfold readyL CU;by_cases h:D.down=true
 ·rw[if_pos h,if_pos h]
 ·rw[if_neg h,if_neg h];simp only[Ait,List.all_nil,Bool.and_true,AdX];by_cases h1:Bq s=true <;> by_cases h2:Bq t=true <;> simp[h1,h2]
theorem GU(D:Ak)(s:Ai1):readyL D [s]=CU D s s:=by
 rw[<-ON];unfold readyL;simp
theorem Xm(w0 w:Ads)(c:Ext w0 w)(H:Dk)(D:Ak)(hS:DkS w0.heap.size w H D)(bd bn bb:Nat)(s b:Ai1)(vb:Adr)(hbd:w.heap[bd]? =some (.cells ([PQ H.g 0]).toArray 25 (0,0)))(hbn:w.heap[bn]? =some (.cells ([St s]).toArray 9 (0,0)))(hbb:w.heap[bb]? =some (.cells ([vb]).toArray 43 (0,0))) 
  (hrb:RB w vb b) (hoff:b= []\/∀i,vb.ownBlock=some i->¬B7 H D.files.length i) (hs:Bq s=true) (hbl:b.length<1099511627776) (hfs:∀x∈D.files,x.1.length<1099511627776) (hn:D.acts.length<1099511627776):
  ∀w1 D1,DkT w0.heap.size w H D w1 H D1->D1=(Cd D).1->Calls Adt 93 #[PQ bd 0,PQ bn 0,PQ bb 0] w1 fun e w' =>e = .returned (.tuple #[])/\∃H',DkT w0.heap.size w1 H D1 w' H' (Bj D1 s b):=by
 intro w1 D1 hT hD1;have hf:=EI D;rw[<-hD1]at hf;have a:Ext w0 w1:=Chg.ext c hT.chg (fun i q=>(hS.foot q).2.2);have h1:=AcW hT hS hbd (by decide) (by decide) (by decide) (by decide);have h2:=AcW hT hS hbn (by decide) (by decide) (by decide) (by decide);have h3:=AcW hT hS hbb (by decide) (by decide) (by decide) (by decide);have h4:=hrb.chg hT.chg hoff;have h5:b= []\/∀i,vb.ownBlock=some i->¬B7 H D1.files.length i:=by rw[hf.1];exact hoff
 cases hlk:lookD D1.now s with
 | none=>exact(Zi w0 w1 a H D1 hT.st bd bn bb s b vb h1 h2 h3 h4 h5 hs hbl (by rw[hf.1];exact hfs) (by rw[hf.2.2.2.1];exact hn) hlk).mono fun e w' ⟨H',q1,q2⟩=>⟨q1,H',q2⟩
 | some k=>exact(Zh w0 w1 a H D1 hT.st bd bn bb s b vb h1 h2 h3 h4 h5 hs hbl (by rw[hf.1];exact hfs) (by rw[hf.2.2.2.1];exact hn) k hlk).mono fun e w' ⟨H',q1,q2⟩=>⟨q1,H',q2⟩
theorem Abx{P:AdM}{K:Adr->Ads->Prop}{ρ:Aj}{w:Ads}{d:Option Tmp}{ty:Ady}{pos:String}{af:Array Edge}{gd:Option (Nat × Bool)}{α:Type}{enc:α->List Adr}{t e:Ady}{x:AdC}{a:α}{u:Adr}(hx:Ab ρ x=u)(hu:enc a= [u]) 
  (hr:∀w:Ads,(Ad0 t 1 #[(0,u)]).run P w = .ok (.slice (some ⟨w.heap.size,0,none⟩) 1 1) (w.alloc (.cells #[u] e)))
  (hk:∀n w',FullG 1 enc w' (.slice (some ⟨n,0,none⟩) 1 1) [a]->Ext w w' ->K (.slice (some ⟨n,0,none⟩) 1 1) w'):Yk P K ((execOp (Ab ρ) ⟨d, .buildSlice t 1 #[(0,x)],ty,pos,af,gd⟩).run P w):=by
 have hE:Ext w (w.alloc (.cells #[u] e)):=(Aeo _ _).alloc (Adw _) _;have hb:(w.alloc (.cells #[u] e)).heap[w.heap.size]? =some (.cells ([u]:List Adr).toArray e (0,0)):=heap_alloc_new w _;refine AcG (v:= .slice (some ⟨w.heap.size,0,none⟩) 1 1) (w' :=w.alloc (.cells #[u] e)) ?_ (hk _ _ (.inr ⟨_,rfl,fun y hy=>by rw[Aeb.1 hy,hu];rfl,by simp[hu],_,1,rfl,Adw _,by simp[maxLen],(fun hq=>by cases hq),fun q hq j z hz=> ?_⟩) hE)
 ·unfold execOp;simp only[AdH,AdK,AdO,hx,AdB,hr,AdA,AdF]
 ·cases hq;rw[Addr.add_lit,Afa];exact Ac hb (by simpa [hu] using hz)
theorem HW(D:Ak)(s:Ai1):Fu D s s=DZ D [] s:=by
 unfold Fu DZ;rw[Ad9,GU] <;>
 (by_cases h:CU D s s≠0
  ·rw[if_pos h,if_pos h]
  ·rw[if_neg h,if_neg h] <;> (cases lookD D.now s <;> rfl))
theorem TL(D:Ak)(s t:Ai1):Fu D s t=DZ D [t] s:=by
 unfold Fu DZ;rw[show [t]++ [s]= [t,s]from rfl,ON] <;>
 (by_cases h:CU D s t≠0
  ·rw[if_pos h,if_pos h]
  ·rw[if_neg h,if_neg h] <;> (cases lookD D.now s <;> rfl))
theorem JX{D:Ak}{ms:List Ai1}{s:Ai1}{c:Nat}(h:DZ D ms s = .error c):c≠0:=by
 unfold DZ at h;split at h
 ·rename_i hn;cases h;exact hn
 ·split at h
  ·cases h
  ·cases h;decide
theorem JY{D:Ak}{ms:List Ai1}{s:Ai1}{k:Nat}(h:DZ D ms s = .ok k):D.down=false/\lookD D.now s=some k/\∀t∈ms,Bq t=true:=by
 unfold DZ at h;split at h
 ·cases h
 ·rename_i hn
  have hn:readyL D (ms++ [s])=0:=Classical.not_not.1 hn;split at h
  ·rename_i k' hk
   cases h;unfold readyL at hn;split at hn
   ·cases hn
   ·rename_i hd
    split at hn
    ·rename_i ha
     exact⟨Ahr.2 hd,hk,fun t ht=>Ael.1 ha t (List.mem_append_left _ ht)⟩
    ·cases hn
  ·cases h
theorem Vv(w0 w:Ads)(a:Ext w0 w)(H:Dk)(D:Ak)(hS:DkS w0.heap.size w H D)(bf bd k:Nat)(hbf:w.heap[bf]? =some (.cells ([PQ (H.F k) 0]).toArray 112 (0,0)))(hbd:w.heap[bd]? =some (.cells ([PQ H.g 0]).toArray 25 (0,0)))(hk:k<D.files.length):
  ∀w1 D1,DkT w0.heap.size w H D w1 H D1->D1=(Cd D).1->Calls Adt 96 #[PQ bf 0,PQ bd 0] w1 fun e w' =>e = .returned (.tuple #[])/\∃H',DkT w0.heap.size w1 H D1 w' H' { D1 with files:=D1.files.set k ((Ar D1 k).1,(Ar D1 k).1.length),kept:=D1.now,acts:= [] } :=by
 intro w1 D1 hT hD1;have hf:=EI D;rw[<-hD1]at hf;have b:Ext w0 w1:=Chg.ext a hT.chg (fun i q=>(hS.foot q).2.2);exact(Zg w0 w1 b H D1 hT.st bf bd k (AcW hT hS hbf (by decide) (by decide) (by decide) (by decide)) (AcW hT hS hbd (by decide) (by decide) (by decide) (by decide)) (by rw[hf.1];exact hk)).mono fun e w' ⟨H',q1,q2⟩=>⟨q1,H',q2⟩
theorem Vw(w0 w:Ads)(a:Ext w0 w)(H:Dk)(D:Ak)(hS:DkS w0.heap.size w H D)(bd bs bf bn k:Nat)(s t:Ai1)(hbd:w.heap[bd]? =some (.cells ([PQ H.g 0]).toArray 25 (0,0)))(hbs:w.heap[bs]? =some (.cells ([St s]).toArray 9 (0,0)))(hbf:w.heap[bf]? =some (.cells ([PQ (H.F k) 0]).toArray 112 (0,0)))(hbn:w.heap[bn]? =some (.cells ([St t]).toArray 9 (0,0))) 
  (hk:k<D.files.length) (hs:Bq s=true) (ht:Bq t=true) (hn:D.acts.length<1099511627776):
  ∀w1 D1,DkT w0.heap.size w H D w1 H D1->D1=(Cd D).1->Calls Adt 126 #[PQ bd 0,PQ bs 0,PQ bf 0,PQ bn 0] w1 fun e w' =>e = .returned (.tuple #[])/\∃H',DkT w0.heap.size w1 H D1 w' H' (turnedD D1 ⟨s,t,k⟩):=by
 intro w1 D1 hT hD1;have hf:=EI D;rw[<-hD1]at hf;have b:Ext w0 w1:=Chg.ext a hT.chg (fun i q=>(hS.foot q).2.2);exact(Ze w0 w1 b H D1 hT.st bd bs bf bn k s t (AcW hT hS hbd (by decide) (by decide) (by decide) (by decide)) (AcW hT hS hbs (by decide) (by decide) (by decide) (by decide)) (AcW hT hS hbf (by decide) (by decide) (by decide) (by decide)) (AcW hT hS hbn (by decide) (by decide) (by decide) (by decide)) (by rw[hf.1];exact hk) hs ht (by rw[hf.2.2.2.1];exact hn)).mono fun e w' ⟨H',q1,q2⟩=>⟨q1,H',q2⟩
theorem Vx(w0 w:Ads)(a:Ext w0 w)(H:Dk)(D:Ak)(hS:DkS w0.heap.size w H D)(bd bs k:Nat)(s:Ai1)(hbd:w.heap[bd]? =some (.cells ([PQ H.g 0]).toArray 25 (0,0)))(hbs:w.heap[bs]? =some (.cells ([St s]).toArray 9 (0,0))) 
  (hk:k<D.files.length) (hs:Bq s=true) (hn:D.acts.length<1099511627776):
  ∀w1 D1,DkT w0.heap.size w H D w1 H D1->D1=(Cd D).1->Calls Adt 119 #[PQ bd 0,PQ bs 0] w1 fun e w' =>e = .returned (.tuple #[])/\∃H',DkT w0.heap.size w1 H D1 w' H' (turnedD D1 ⟨s,[],k⟩):=by
 intro w1 D1 hT hD1;have hf:=EI D;rw[<-hD1]at hf;have b:Ext w0 w1:=Chg.ext a hT.chg (fun i q=>(hS.foot q).2.2);exact(Zf w0 w1 b H D1 hT.st bd bs k s (AcW hT hS hbd (by decide) (by decide) (by decide) (by decide)) (AcW hT hS hbs (by decide) (by decide) (by decide) (by decide)) (by rw[hf.1];exact hk) hs (by rw[hf.2.2.2.1];exact hn)).mono fun e w' ⟨H',q1,q2⟩=>⟨q1,H',q2⟩
theorem LI:Ax Adt 82 0 0:=fun b o w=>by simp[go_sem]
theorem OO:Plain Adt 62:=fun _ _=>by kernel_rfl
theorem LJ:Ax Adt 82 4 4:=fun b o w=>by simp[go_sem]
theorem Iy:Plain Adt 92:=fun _ _=>by kernel_rfl
theorem FI:Plain Adt 73:=fun _ _=>by kernel_rfl
theorem TM(w0 w:Ads)(h:Ext w0 w)(H:Dk)(D:Ak)(hS:DkS w0.heap.size w H D)(s:Ai1)(vb:Adr)(b:Ai1)(hrb:RB w vb b)(hoff:b= []\/∀i,vb.ownBlock=some i->¬B7 H D.files.length i)(hbl:b.length<1099511627776)(hL:EV D):
  Calls Adt 44 #[PQ H.g 0,St s,vb] w fun e w' =>∃H',e = .returned (NI (BU D s b).2)/\DkT w0.heap.size w H D w' H' (BU D s b).1:=by
 have hb:=hS.blk;have hgl:=(bl hb);have hgl0:=hS.lo.1;have hsz0:=h.size;have ag:=hS;have hgr:=AdZ w (some H.g);refine gG (args:= [PQ H.g 0,St (s),vb]) Tryz.func44 rfl 35 rfl rfl ?_;have hE:=Acz w;refine gS (Aat (vr (PQ H.g 0) rfl) rfl fun o w3 ak al u bk=> ?_);have bm:=hE.size;have bn:=h.size;have hgr:w.grownBy w3 (some H.g):=Aa hgr u.grown (fun _ e=>by cases e);have c:=al;clear al;have bo:o<w3.heap.size:=by omega
 refine gS (Aat (vr (St (s)) rfl) rfl fun p am x an l bp=> ?_);have hE:=hE.trans u;have h:=h.trans u;have bq:=hE.size;have br:=h.size;have hgr:w.grownBy am (some H.g):=Aa hgr l.grown (fun _ e=>by cases e);have f:=an;clear an;have bs:p<am.heap.size:=by omega
 have hE:=hE.trans l;refine gS (Aat (vr vb rfl) (Ado (hrb.keep hE)).1 fun t ao m ap j bt=> ?_);have h:=h.trans l;have bu:=hE.size;have bv:=h.size;have hgr:w.grownBy ao (some H.g):=Aa hgr j.grown (fun _ e=>by cases e);have k:=ap;clear ap;have bw:t<ao.heap.size:=by omega
 have hq0:=hL.quota;have hq1:=hL.used;by_cases y:CU D s s≠0
 ·have hV:BU D s b=(D,CU D s s):=if_pos y;have aq:=AO (bl c) x;have c:=eb l c;have ar:=AO (bl c) m;have c:=eb j c;have au:=AO (bl f) m;have f:=eb j f;refine gS (ZN Vn rfl rfl (Ac c rfl) (gS (ZN E4 rfl rfl (Ac f rfl) (gS (AaH (a:=s) (enc:=Gc) (vr (St (s)) rfl) rfl (fun w=>Jv _ w) fun a1 a2 a3 av=> ?_)))));have hgr:w.grownBy a2 (some H.g):=Aa hgr av.grown (fun _ e=>by cases e);have hZ1:=j.trans av;have hE:=hE.trans hZ1;refine gS (ZR KK rfl rfl ((FH w0.heap.size _ H D (hS.keep hE) a1 [s] a3 (by simp)).mono ?_));rintro e a4 ⟨rfl,aw⟩;refine⟨_,rfl,?_⟩;have hgr:w.grownBy a4 (some H.g):=Aa hgr aw.grown (fun _ e=>by cases e);refine gS (ZO (a:=(readyL D [s]:Nat)) (b:=(0:Nat)) rfl rfl (AX _ _ _ _) (kT (by rw[GU];omega) (cT rfl (Az rfl (vr (NI (readyL D [s])) rfl) ?_))));have hE:=hE.trans aw;exact⟨H,by rw[hV,GU],by rw[hV];exact Ac3 ag hE⟩
 have a5:CU D s s=0:=Classical.not_not.1 y;obtain⟨hdn,hs,-⟩:=Vk a5;by_cases hq:D.quota<usedD D+b.length
 ·have hV:BU D s b=({ D with refused:=D.refused+1 },8):=(if_neg y).trans (if_pos hq);have aq:=AO (bl c) x;have c:=eb l c;have ar:=AO (bl c) m;have c:=eb j c;have au:=AO (bl f) m;have f:=eb j f;refine gS (ZN Vn rfl rfl (Ac c rfl) (gS (ZN E4 rfl rfl (Ac f rfl) (gS (AaH (a:=s) (enc:=Gc) (vr (St (s)) rfl) rfl (fun w=>Jv _ w) fun a6 a7 ax ah=> ?_)))));have hgr:w.grownBy a7 (some H.g):=Aa hgr ah.grown (fun _ e=>by cases e);have hZ2:=j.trans ah;have hE:=hE.trans hZ2;refine gS (ZR KK rfl rfl ((FH w0.heap.size _ H D (hS.keep hE) a6 [s] ax (by simp)).mono ?_));rintro e a8 ⟨rfl,z⟩;refine⟨_,rfl,?_⟩;have hgr:w.grownBy a8 (some H.g):=Aa hgr z.grown (fun _ e=>by cases e);refine gS (ZO (a:=(readyL D [s]:Nat)) (b:=(0:Nat)) rfl rfl (AX _ _ _ _) (kF (by rw[GU];omega) (cF rfl (Ev [0,1,2,3,4,5,6,7,8,9] [7] [1,3,4] [0,2,5] fun ay aa=> ?_))));have hgr:w.grownBy ay (some H.g):=Aa hgr aa.grown (fun _ e=>by cases e);have ab:=Acz ay;have a9:=AO (bl hb) ak;have hb:=eb u hb;have ba:=AO (bl hb) x;have hb:=eb l hb;have bb:=AO (bl hb) m;have hZ3:=(hZ2.trans z).trans aa;have hb:=eb hZ3 hb;have hZ4:=(ah.trans z).trans aa;have c:=eb hZ4 c;have k:=eb hZ4 k;have hZ5:=z.trans aa;have hE:=hE.trans hZ5;refine Ew ab ?_;refine yf (fun _ ⟨hZ,_⟩=>ZN Hv rfl rfl (Ac (eb hZ k) rfl) zz) (yp (Aae Hv (Aaf (hrb.keep hE) rfl) zz) (yf (fun _ ⟨hZ,_⟩=>ZN Vn rfl rfl (Ac (eb hZ c) rfl) zz) (yp (AcA rfl zz) (yp (Acy LI rfl zz) (yf (fun _ ⟨hZ,_⟩=>ZN Oa rfl rfl (Ac (eb hZ hb) rfl) zz) (ys (ZN Vn rfl rfl (Ac c rfl) zz) (yE (ZP OO rfl ((Qp w0.heap.size _ H D (hS.keep hE) hL.used).mono ?_)))))))));rintro e bc ⟨rfl,ac⟩;refine⟨_,rfl,?_⟩;have hgr:w.grownBy bc (some H.g):=Aa hgr ac.grown (fun _ e=>by cases e);have ab:=ab.trans ac;refine⟨ab,?_⟩;have hb:=eb ac hb;have c:=eb ac c;refine ys (ZV (xv:= .int .i64 (((D.quota:Nat):Int))) (yv:= .int .i64 (((usedD D:Nat):Int))) rfl rfl rfl (Ol _ (((D.quota:Nat):Int)) (((usedD D:Nat):Int)) (by omega)) zz) (ys (ZO rfl rfl (Wu _ .i64 ((b.length:Nat):Int) (((((D.quota:Nat):Int))-(((usedD D:Nat):Int))):Int)) zz) (kT (by omega) (cT rfl (gS (ZN Vn rfl rfl (Ac c rfl) (gS (AcA rfl (gS (Acy LJ rfl (gS (ZN Oa rfl rfl (Ac hb rfl) (gS (ZV (xv:=NI D.refused) (yv:=NI 1) rfl rfl rfl (AF _ _ _ (by have:=hL.refused;omega)) (gS (AcA rfl (gS (Acy LJ rfl (gS (ZS (i:=4) (v:=NI ((D.refused)+(1))) rfl rfl hb (AdD rfl) DR rfl rfl fun bd az be bx=> ?_)))))))))))))))))));have hgr:w.grownBy bd (some H.g):=Aa hgr be (fun _ e=> .inl e);clear hE;clear ax;clear hb;have hb:=az;clear az;have bz:=bl hb;refine Az rfl (vr (NI 8) rfl) ?_;exact⟨H,by rw[hV],by rw[hV];exact ag.setBlkT hgr hb⟩
 have hV:BU D s b=DA D (fun d=>Bj d s b):=by unfold DA;exact(if_neg y).trans (if_neg hq)
 have aq:=AO (bl c) x;have c:=eb l c;have ar:=AO (bl c) m;have c:=eb j c;have au:=AO (bl f) m;have f:=eb j f;refine gS (ZN Vn rfl rfl (Ac c rfl) (gS (ZN E4 rfl rfl (Ac f rfl) (gS (AaH (a:=s) (enc:=Gc) (vr (St (s)) rfl) rfl (fun w=>Jv _ w) fun bf bg bh ai=> ?_)))));have hgr:w.grownBy bg (some H.g):=Aa hgr ai.grown (fun _ e=>by cases e);have hZ6:=j.trans ai;have hE:=hE.trans hZ6;refine gS (ZR KK rfl rfl ((FH w0.heap.size _ H D (hS.keep hE) bf [s] bh (by simp)).mono ?_));rintro e bi ⟨rfl,ad⟩;refine⟨_,rfl,?_⟩;have hgr:w.grownBy bi (some H.g):=Aa hgr ad.grown (fun _ e=>by cases e);refine gS (ZO (a:=(readyL D [s]:Nat)) (b:=(0:Nat)) rfl rfl (AX _ _ _ _) (kF (by rw[GU];omega) (cF rfl (Ev [0,1,2,3,4,5,6,7,8,9] [7] [1,3,4] [0,2,5] fun a0 ae=> ?_))));have hgr:w.grownBy a0 (some H.g):=Aa hgr ae.grown (fun _ e=>by cases e);have af:=Acz a0;have a9:=AO (bl hb) ak;have hb:=eb u hb;have ba:=AO (bl hb) x;have hb:=eb l hb;have bb:=AO (bl hb) m;have hZ7:=(hZ6.trans ad).trans ae;have hb:=eb hZ7 hb;have hZ8:=(ai.trans ad).trans ae;have c:=eb hZ8 c;have k:=eb hZ8 k;have hZ9:=ad.trans ae;have hE:=hE.trans hZ9;refine Ew af ?_;refine yf (fun _ ⟨hZ,_⟩=>ZN Hv rfl rfl (Ac (eb hZ k) rfl) zz) (yp (Aae Hv (Aaf (hrb.keep hE) rfl) zz) (yf (fun _ ⟨hZ,_⟩=>ZN Vn rfl rfl (Ac (eb hZ c) rfl) zz) (yp (AcA rfl zz) (yp (Acy LI rfl zz) (yf (fun _ ⟨hZ,_⟩=>ZN Oa rfl rfl (Ac (eb hZ hb) rfl) zz) (ys (ZN Vn rfl rfl (Ac c rfl) zz) (yE (ZP OO rfl ((Qp w0.heap.size _ H D (hS.keep hE) hL.used).mono ?_)))))))));rintro e bj ⟨rfl,n⟩;refine⟨_,rfl,?_⟩;have hgr:w.grownBy bj (some H.g):=Aa hgr n.grown (fun _ e=>by cases e);have af:=af.trans n;refine⟨af,?_⟩;have c:=eb n c;refine ys (ZV (xv:= .int .i64 (((D.quota:Nat):Int))) (yv:= .int .i64 (((usedD D:Nat):Int))) rfl rfl rfl (Ol _ (((D.quota:Nat):Int)) (((usedD D:Nat):Int)) (by omega)) zz) (ys (ZO rfl rfl (Wu _ .i64 ((b.length:Nat):Int) (((((D.quota:Nat):Int))-(((usedD D:Nat):Int))):Int)) zz) (kF (by omega) (cF rfl (gS (ZN Vn rfl rfl (Ac c rfl) (gS (Aac (vs:= #[PQ o 0,PQ p 0,PQ t 0]) (by simp only[AdH,AdK,AdO];exact congrArg Ad2 (QD (vr (PQ o 0) rfl) (vr (PQ p 0) rfl) (vr (PQ t 0) rfl))) ?_)))))));have hE:=hE.trans n;have hEc:=hE;have hSc:=(hS.keep hE);have hTc:=Ac3 ag hEc;have hZ10:=hZ7.trans n;have h:=h.trans hZ10;have hE0c:=h;have f:=eb (hZ8.trans n) f;have k:=eb n k;refine gS (ZR Iy rfl rfl ((LH w0 _ hE0c H D hSc hdn hL.arm (.func (.func 93) #[] #[PQ o 0,PQ p 0,PQ t 0]) 93 #[PQ o 0,PQ p 0,PQ t 0] (fun _ _=>by kernel_rfl) rfl (fun d=>Bj d s b) (Xm w0 _ hE0c H D hSc o p t s b vb c f k (hrb.keep hE) (hoff.imp id fun q i hi r=>q i hi r) hs hbl hL.files hL.acts)).mono ?_));rintro e b0 ⟨H3,rfl,hT2⟩;refine⟨_,rfl,?_⟩;have hT3:=hTc.trans hT2;refine Az rfl (vr (NI ((DA D (fun d=>Bj d s b)).2)) rfl) ?_;exact⟨H3,by rw[hV],by rw[hV];exact hT3⟩
theorem Xn(w0 w:Ads)(c:Ext w0 w)(H:Dk)(D:Ak)(hS:DkS w0.heap.size w H D)(s:Ai1)(hL:EV D):
  Calls Adt 46 #[PQ H.g 0,St s] w fun e w' =>∃H',e = .returned (NI (Ce D s).2)/\DkT w0.heap.size w H D w' H' (Ce D s).1:=by
 have hb:=hS.blk;have hgl:=(bl hb);have hgl0:=hS.lo.1;have hsz0:=c.size;have y:=hS;have hgr:=AdZ w (some H.g);refine gG (args:= [PQ H.g 0,St (s)]) Tryz.func46 rfl 19 rfl rfl ?_;have hE:=Acz w;refine gS (Aat (vr (PQ H.g 0) rfl) rfl fun f z ar aa n au=> ?_);have j:=Acz w;have av:=hE.size;have aw:=c.size;have hgr:w.grownBy z (some H.g):=Aa hgr n.grown (fun _ e=>by cases e);have l:=aa;clear aa;have ax:f<z.heap.size:=by omega
 rcases hV0:DZ D [] s with ce | k
 ·have hV:Ce D s=(D,ce):=by unfold Ce;rw[HW,hV0]
  have hce:=JX hV0;have hE:=hE.trans n;refine gS (ZN Vn rfl rfl (Ac l rfl) (gS (Z5 FI rfl rfl rfl (((show Calls _ _ _ _ (fun e w2=>e = .returned (.tuple #[.pointer none,NI ce])/\Ext _ w2)from by have h:=Gd w0.heap.size _ H D (hS.keep hE) s ((AdI none 0 0)) [] (.inl ⟨rfl,rfl⟩) (by simp);rw[hV0]at h;exact h)).mono ?_))));rintro e ak ⟨rfl,x⟩;refine⟨_,rfl,?_⟩;have hgr:w.grownBy ak (some H.g):=Aa hgr x.grown (fun _ e=>by cases e);refine gS (AcB (vs:= [.pointer none,NI ce]) rfl rfl (gS (AcB (vs:= [.pointer none,NI ce]) rfl rfl (gS (AcH TK fun al ab ay ac ad az=> ?_)))));have hE:=hE.trans x;have hZ1:=n.trans x;have c:=c.trans hZ1;have j:=j.trans hZ1;have a0:=hE.size;have a1:=c.size;have am:=j.size;have hgr:w.grownBy ab (some H.g):=Aa hgr ad.grown (fun _ e=>by cases e);have q:=ac;clear ac;have a2:al<ab.heap.size:=by omega
  refine gS (ZS (i:=0) (v:= .pointer none) rfl rfl q (AdD rfl) RC rfl rfl fun an ae af a3=> ?_);have hgr:w.grownBy an (some H.g):=Aa hgr af (fun _ e=> .inr (by cases e;omega));clear q;have q:=ae;clear ae;have a4:=bl q;refine gS (ZO (a:=(ce:Nat)) (b:=(0:Nat)) rfl rfl (AX _ _ _ _) (kT (by omega) (cT rfl (Az rfl (vr (NI ce) rfl) ?_))));have hE:=hE.trans ad;have hE:=Ad hE af (Adu am (by omega));exact⟨H,by rw[hV],by rw[hV];exact Ac3 y hE⟩
 have hV:Ce D s=DA D (fun d=> { d with files:=d.files.set k ((Ar d k).1,(Ar d k).1.length),kept:=d.now,acts:= [] }):=by unfold Ce;rw[HW,hV0]
 obtain⟨hdn,hlk,hms⟩:=JY hV0;have hkl:=hS.ok.now.look hlk;have hE:=hE.trans n;refine gS (ZN Vn rfl rfl (Ac l rfl) (gS (Z5 FI rfl rfl rfl (((show Calls _ _ _ _ (fun e w2=>e = .returned (.tuple #[.pointer (some ⟨(H.F k),0,none⟩),NI 0])/\Ext _ w2)from by have h:=Gd w0.heap.size _ H D (hS.keep hE) s ((AdI none 0 0)) [] (.inl ⟨rfl,rfl⟩) (by simp);rw[hV0]at h;exact h)).mono ?_))));rintro e ag ⟨rfl,r⟩;refine⟨_,rfl,?_⟩;have hgr:w.grownBy ag (some H.g):=Aa hgr r.grown (fun _ e=>by cases e);refine gS (AcB (vs:= [.pointer (some ⟨(H.F k),0,none⟩),NI 0]) rfl rfl (gS (AcB (vs:= [.pointer (some ⟨(H.F k),0,none⟩),NI 0]) rfl rfl (gS (AcH TK fun m ah a5 ai t a6=> ?_)))));have o:=Acz ag;have hE:=hE.trans r;have hZ2:=n.trans r;have c:=c.trans hZ2;have j:=j.trans hZ2;have a7:=hE.size;have ao:=c.size;have ap:=j.size;have hgr:w.grownBy ah (some H.g):=Aa hgr t.grown (fun _ e=>by cases e);have p:=ai;clear ai;have a8:m<ah.heap.size:=by omega
 refine gS (ZS (i:=0) (v:= .pointer (some ⟨(H.F k),0,none⟩)) rfl rfl p (AdD rfl) RC rfl rfl fun aq aj u a9=> ?_);have hgr:w.grownBy aq (some H.g):=Aa hgr u (fun _ e=> .inr (by cases e;omega));clear p;have p:=aj;clear aj;have ba:=bl p;have o:=o.trans t;have o:=Ad o u (Adu (Adw _) (by omega));have l:=eb (r.trans o) l;refine gS (ZO (a:=(0:Nat)) (b:=(0:Nat)) rfl rfl (AX _ _ _ _) (kF (by decide) (cF rfl (gS (ZN Vn rfl rfl (Ac l rfl) (gS (Aac (vs:= #[PQ m 0,PQ f 0]) (by simp only[AdH,AdK,AdO];exact congrArg Ad2 (Cj (vr (PQ m 0) rfl) (vr (PQ f 0) rfl))) ?_)))))));have hE:=hE.trans t;have hE:=Ad hE u (Adu ap (by omega));have hEc:=hE;have hSc:=(hS.keep hE);have hTc:=Ac3 y hEc;have c:=c.trans t;have c:=Ad c u (Adu ao (by omega));have hE0c:=c;refine gS (ZR Iy rfl rfl ((LH w0 _ hE0c H D hSc hdn hL.arm (.func (.func 96) #[] #[PQ m 0,PQ f 0]) 96 #[PQ m 0,PQ f 0] (fun _ _=>by kernel_rfl) rfl (fun d=> { d with files:=d.files.set k ((Ar d k).1,(Ar d k).1.length),kept:=d.now,acts:= [] }) (Vv w0 _ hE0c H D hSc m f k p l hkl.1)).mono ?_));rintro e bb ⟨H3,rfl,hT2⟩;refine⟨_,rfl,?_⟩;have hT3:=hTc.trans hT2;refine Az rfl (vr (NI ((DA D (fun d=> { d with files:=d.files.set k ((Ar d k).1,(Ar d k).1.length),kept:=d.now,acts:= [] })).2)) rfl) ?_;exact⟨H3,by rw[hV],by rw[hV];exact hT3⟩
theorem Xo(w0 w:Ads)(c:Ext w0 w)(H:Dk)(D:Ak)(hS:DkS w0.heap.size w H D)(s t:Ai1)(hL:EV D):
  Calls Adt 81 #[PQ H.g 0,St s,St t] w fun e w' =>∃H',e = .returned (NI (Df D s t).2)/\DkT w0.heap.size w H D w' H' (Df D s t).1:=by
 have hb:=hS.blk;have hgl:=(bl hb);have hgl0:=hS.lo.1;have hsz0:=c.size;have ah:=hS;have hgr:=AdZ w (some H.g);refine gG (args:= [PQ H.g 0,St (s),St (t)]) Tryz.func81 rfl 23 rfl rfl ?_;have hE:=Acz w;refine gS (Aat (vr (PQ H.g 0) rfl) rfl fun o w3 bf aj ab bg=> ?_);have j:=Acz w;have bh:=hE.size;have bi:=c.size;have hgr:w.grownBy w3 (some H.g):=Aa hgr ab.grown (fun _ e=>by cases e);have f:=aj;clear aj;have bj:o<w3.heap.size:=by omega
 refine gS (Aat (vr (St (s)) rfl) rfl fun p ak al am q bk=> ?_);have hE:=hE.trans ab;have c:=c.trans ab;have j:=j.trans ab;have bm:=hE.size;have bn:=c.size;have bo:=j.size;have hgr:w.grownBy ak (some H.g):=Aa hgr q.grown (fun _ e=>by cases e);have l:=am;clear am;have bp:p<ak.heap.size:=by omega
 refine gS (Aat (vr (St (t)) rfl) rfl fun r an ac ao m bq=> ?_);have hE:=hE.trans q;have c:=c.trans q;have j:=j.trans q;have br:=hE.size;have bs:=c.size;have bt:=j.size;have hgr:w.grownBy an (some H.g):=Aa hgr m.grown (fun _ e=>by cases e);have y:=ao;clear ao;have bu:r<an.heap.size:=by omega
 rcases hV0:DZ D [t] s with ce | k
 ·have hV:Df D s t=(D,ce):=by unfold Df;rw[TL,hV0]
  have hce:=JX hV0;have a1:=AO (bl f) al;have f:=eb q f;have a2:=AO (bl f) ac;have f:=eb m f;have a3:=AO (bl l) ac;have l:=eb m l;refine gS (ZN Vn rfl rfl (Ac f rfl) (gS (ZN E4 rfl rfl (Ac l rfl) (gS (ZN E4 rfl rfl (Ac y rfl) (gS (Abx (a:=t) (enc:=Gc) (vr (St (t)) rfl) rfl (fun w=>Jv _ w) fun a4 a5 hF57 ap=> ?_)))))));have hgr:w.grownBy a5 (some H.g):=Aa hgr ap.grown (fun _ e=>by cases e);have hFl:=hF57;clear hF57;have hZ1:=m.trans ap;have hE:=hE.trans hZ1;refine gS (Z5 FI rfl rfl rfl (((show Calls _ _ _ _ (fun e w2=>e = .returned (.tuple #[.pointer none,NI ce])/\Ext _ w2)from by have h:=Gd w0.heap.size _ H D (hS.keep hE) s (.slice (some ⟨a4,0,none⟩) 1 1) [t] hFl (by simp);rw[hV0]at h;exact h)).mono ?_));rintro e a6 ⟨rfl,ag⟩;refine⟨_,rfl,?_⟩;have hgr:w.grownBy a6 (some H.g):=Aa hgr ag.grown (fun _ e=>by cases e);refine gS (AcB (vs:= [.pointer none,NI ce]) rfl rfl (gS (AcB (vs:= [.pointer none,NI ce]) rfl rfl (gS (AcH TK fun a7 aq bv ar au bw=> ?_)))));have hE:=hE.trans ag;have hZ2:=hZ1.trans ag;have c:=c.trans hZ2;have j:=j.trans hZ2;have bx:=hE.size;have bz:=c.size;have a8:=j.size;have hgr:w.grownBy aq (some H.g):=Aa hgr au.grown (fun _ e=>by cases e);have ad:=ar;clear ar;have b0:a7<aq.heap.size:=by omega
  refine gS (ZS (i:=0) (v:= .pointer none) rfl rfl ad (AdD rfl) RC rfl rfl fun a9 av aw b1=> ?_);have hgr:w.grownBy a9 (some H.g):=Aa hgr aw (fun _ e=> .inr (by cases e;omega));clear ad;have ad:=av;clear av;have b2:=bl ad;refine gS (ZO (a:=(ce:Nat)) (b:=(0:Nat)) rfl rfl (AX _ _ _ _) (kT (by omega) (cT rfl (Az rfl (vr (NI ce) rfl) ?_))));have hE:=hE.trans au;have hE:=Ad hE aw (Adu a8 (by omega));exact⟨H,by rw[hV],by rw[hV];exact Ac3 ah hE⟩
 have hV:Df D s t=DA D (fun d=>turnedD d ⟨s,t,k⟩):=by unfold Df;rw[TL,hV0]
 obtain⟨hdn,hlk,hms⟩:=JY hV0;have hkl:=hS.ok.now.look hlk;have a1:=AO (bl f) al;have f:=eb q f;have a2:=AO (bl f) ac;have f:=eb m f;have a3:=AO (bl l) ac;have l:=eb m l;refine gS (ZN Vn rfl rfl (Ac f rfl) (gS (ZN E4 rfl rfl (Ac l rfl) (gS (ZN E4 rfl rfl (Ac y rfl) (gS (Abx (a:=t) (enc:=Gc) (vr (St (t)) rfl) rfl (fun w=>Jv _ w) fun ba bb hF97 z=> ?_)))))));have hgr:w.grownBy bb (some H.g):=Aa hgr z.grown (fun _ e=>by cases e);have hFl:=hF97;clear hF97;have hZ3:=m.trans z;have hE:=hE.trans hZ3;refine gS (Z5 FI rfl rfl rfl (((show Calls _ _ _ _ (fun e w2=>e = .returned (.tuple #[.pointer (some ⟨(H.F k),0,none⟩),NI 0])/\Ext _ w2)from by have h:=Gd w0.heap.size _ H D (hS.keep hE) s (.slice (some ⟨ba,0,none⟩) 1 1) [t] hFl (by simp);rw[hV0]at h;exact h)).mono ?_));rintro e ax ⟨rfl,u⟩;refine⟨_,rfl,?_⟩;have hgr:w.grownBy ax (some H.g):=Aa hgr u.grown (fun _ e=>by cases e);refine gS (AcB (vs:= [.pointer (some ⟨(H.F k),0,none⟩),NI 0]) rfl rfl (gS (AcB (vs:= [.pointer (some ⟨(H.F k),0,none⟩),NI 0]) rfl rfl (gS (AcH TK fun x ay b3 az ae b4=> ?_)))));have n:=Acz ax;have hE:=hE.trans u;have hZ4:=hZ3.trans u;have c:=c.trans hZ4;have j:=j.trans hZ4;have b5:=hE.size;have bc:=c.size;have bd:=j.size;have hgr:w.grownBy ay (some H.g):=Aa hgr ae.grown (fun _ e=>by cases e);have aa:=az;clear az;have b6:x<ay.heap.size:=by omega
 refine gS (ZS (i:=0) (v:= .pointer (some ⟨(H.F k),0,none⟩)) rfl rfl aa (AdD rfl) RC rfl rfl fun be a0 af b7=> ?_);have hgr:w.grownBy be (some H.g):=Aa hgr af (fun _ e=> .inr (by cases e;omega));clear aa;have aa:=a0;clear a0;have b8:=bl aa;have n:=n.trans ae;have n:=Ad n af (Adu (Adw _) (by omega));have f:=eb ((z.trans u).trans n) f;refine gS (ZO (a:=(0:Nat)) (b:=(0:Nat)) rfl rfl (AX _ _ _ _) (kF (by decide) (cF rfl (gS (ZN Vn rfl rfl (Ac f rfl) (gS (Aac (vs:= #[PQ o 0,PQ p 0,PQ x 0,PQ r 0]) (by simp only[AdH,AdK,AdO];exact congrArg Ad2 (YV (vr (PQ o 0) rfl) (vr (PQ p 0) rfl) (vr (PQ x 0) rfl) (vr (PQ r 0) rfl))) ?_)))))));have hE:=hE.trans ae;have hE:=Ad hE af (Adu bd (by omega));have hEc:=hE;have hSc:=(hS.keep hE);have hTc:=Ac3 ah hEc;have c:=c.trans ae;have c:=Ad c af (Adu bc (by omega));have hE0c:=c;have l:=eb ((z.trans u).trans n) l;have y:=eb ((z.trans u).trans n) y;refine gS (ZR Iy rfl rfl ((LH w0 _ hE0c H D hSc hdn hL.arm (.func (.func 126) #[] #[PQ o 0,PQ p 0,PQ x 0,PQ r 0]) 126 #[PQ o 0,PQ p 0,PQ x 0,PQ r 0] (fun _ _=>by kernel_rfl) rfl (fun d=>turnedD d ⟨s,t,k⟩) (Vw w0 _ hE0c H D hSc o p x r k s t f l aa y hkl.1 hkl.2 (hms t (by simp)) hL.acts)).mono ?_));rintro e b9 ⟨H3,rfl,hT2⟩;refine⟨_,rfl,?_⟩;have hT3:=hTc.trans hT2;refine Az rfl (vr (NI ((DA D (fun d=>turnedD d ⟨s,t,k⟩)).2)) rfl) ?_;exact⟨H3,by rw[hV],by rw[hV];exact hT3⟩
theorem Xp(w0 w:Ads)(f:Ext w0 w)(H:Dk)(D:Ak)(hS:DkS w0.heap.size w H D)(s:Ai1)(hL:EV D):
  Calls Adt 72 #[PQ H.g 0,St s] w fun e w' =>∃H',e = .returned (NI (Bt D s).2)/\DkT w0.heap.size w H D w' H' (Bt D s).1:=by
 have hb:=hS.blk;have hgl:=(bl hb);have hgl0:=hS.lo.1;have hsz0:=f.size;have p:=hS;have hgr:=AdZ w (some H.g);refine gG (args:= [PQ H.g 0,St (s)]) Tryz.func72 rfl 19 rfl rfl ?_;have hE:=Acz w;refine gS (Aat (vr (PQ H.g 0) rfl) rfl fun i q ab r o ac=> ?_);have ad:=hE.size;have ae:=f.size;have hgr:w.grownBy q (some H.g):=Aa hgr o.grown (fun _ e=>by cases e);have c:=r;clear r;have af:i<q.heap.size:=by omega
 refine gS (Aat (vr (St (s)) rfl) rfl fun j t u v l ag=> ?_);have hE:=hE.trans o;have f:=f.trans o;have ah:=hE.size;have ai:=f.size;have hgr:w.grownBy t (some H.g):=Aa hgr l.grown (fun _ e=>by cases e);have m:=v;clear v;have aj:j<t.heap.size:=by omega
 rcases hV0:DZ D [] s with ce | k
 ·have hV:Bt D s=(D,ce):=by unfold Bt;rw[HW,hV0]
  have hce:=JX hV0;have y:=AO (bl c) u;have c:=eb l c;have hE:=hE.trans l;refine gS (ZN Vn rfl rfl (Ac c rfl) (gS (ZN E4 rfl rfl (Ac m rfl) (gS (Z5 FI rfl rfl rfl (((show Calls _ _ _ _ (fun e w2=>e = .returned (.tuple #[.pointer none,NI ce])/\Ext _ w2)from by have h:=Gd w0.heap.size _ H D (hS.keep hE) s ((AdI none 0 0)) [] (.inl ⟨rfl,rfl⟩) (by simp);rw[hV0]at h;exact h)).mono ?_))))));rintro e z ⟨rfl,x⟩;refine⟨_,rfl,?_⟩;have hgr:w.grownBy z (some H.g):=Aa hgr x.grown (fun _ e=>by cases e);refine gS (AcB (vs:= [.pointer none,NI ce]) rfl rfl (gS (AcB (vs:= [.pointer none,NI ce]) rfl rfl (gS (ZO (a:=(ce:Nat)) (b:=(0:Nat)) rfl rfl (AX _ _ _ _) (kT (by omega) (cT rfl (Az rfl (vr (NI ce) rfl) ?_))))))));have hE:=hE.trans x;exact⟨H,by rw[hV],by rw[hV];exact Ac3 p hE⟩
 have hV:Bt D s=DA D (fun d=>turnedD d ⟨s,[],k⟩):=by unfold Bt;rw[HW,hV0]
 obtain⟨hdn,hlk,hms⟩:=JY hV0;have hkl:=hS.ok.now.look hlk;have y:=AO (bl c) u;have c:=eb l c;have hE:=hE.trans l;refine gS (ZN Vn rfl rfl (Ac c rfl) (gS (ZN E4 rfl rfl (Ac m rfl) (gS (Z5 FI rfl rfl rfl (((show Calls _ _ _ _ (fun e w2=>e = .returned (.tuple #[.pointer (some ⟨(H.F k),0,none⟩),NI 0])/\Ext _ w2)from by have h:=Gd w0.heap.size _ H D (hS.keep hE) s ((AdI none 0 0)) [] (.inl ⟨rfl,rfl⟩) (by simp);rw[hV0]at h;exact h)).mono ?_))))));rintro e aa ⟨rfl,n⟩;refine⟨_,rfl,?_⟩;have hgr:w.grownBy aa (some H.g):=Aa hgr n.grown (fun _ e=>by cases e);have c:=eb n c;refine gS (AcB (vs:= [.pointer (some ⟨(H.F k),0,none⟩),NI 0]) rfl rfl (gS (AcB (vs:= [.pointer (some ⟨(H.F k),0,none⟩),NI 0]) rfl rfl (gS (ZO (a:=(0:Nat)) (b:=(0:Nat)) rfl rfl (AX _ _ _ _) (kF (by decide) (cF rfl (gS (ZN Vn rfl rfl (Ac c rfl) (gS (Aac (vs:= #[PQ i 0,PQ j 0]) (by simp only[AdH,AdK,AdO];exact congrArg Ad2 (Cj (vr (PQ i 0) rfl) (vr (PQ j 0) rfl))) ?_)))))))))));have hE:=hE.trans n;have hEc:=hE;have hSc:=(hS.keep hE);have hTc:=Ac3 p hEc;have hZ1:=l.trans n;have f:=f.trans hZ1;have hE0c:=f;have m:=eb n m;refine gS (ZR Iy rfl rfl ((LH w0 _ hE0c H D hSc hdn hL.arm (.func (.func 119) #[] #[PQ i 0,PQ j 0]) 119 #[PQ i 0,PQ j 0] (fun _ _=>by kernel_rfl) rfl (fun d=>turnedD d ⟨s,[],k⟩) (Vx w0 _ hE0c H D hSc i j k s c m hkl.1 hkl.2 hL.acts)).mono ?_));rintro e ak ⟨H3,rfl,hT2⟩;refine⟨_,rfl,?_⟩;have hT3:=hTc.trans hT2;refine Az rfl (vr (NI ((DA D (fun d=>turnedD d ⟨s,[],k⟩)).2)) rfl) ?_;exact⟨H3,by rw[hV],by rw[hV];exact hT3⟩
theorem Acr{P:AdM}{K:Adr->Ads->Prop}{ρ:Aj}{w:Ads}{d:Option Tmp}{ty:Ady}{pos:String}{af:Array Edge}{gd:Option (Nat × Bool)}{x y:AdC}{n:Int}(hx:Ab ρ x = .int .i64 n)(hy:Ab ρ y=NI 0)(hk:K (NI n.toNat) w):Yk P K ((execOp (Ab ρ) ⟨d, .call ⟨.builtin .max,#[x,y],#[3,3]⟩,ty,pos,af,gd⟩).run P w):=by
 refine AcG (v:=NI n.toNat) (w' :=w) ?_ hk;have he:(if(0:Int)>n then(0:Int)else n)=(n.toNat:Int):=by split <;> omega
 have hr:=run_max_int2 (P:=P) w #[3,3] ty .i64 .i64 n 0;rw[he]at hr;unfold execOp;simp only[resolve,invoke,builtin,AdB,AdF,AdA,AdH,AdK,AdO,hx,hy,hr,show(NI 0:Adr) = .int .i64 0 from rfl]
theorem TN(w:Ads):(Ad0 43 0 #[]).run Adt w = .ok (.slice (some ⟨w.heap.size,0,none⟩) 0 0) (w.alloc (.cells #[] 5)):=by kernel_rfl
theorem Vy:Plain Adt 54:=fun _ _=>by kernel_rfl
theorem YB(w:Ads):
  Calls Adt 54 #[(.slice none 0 0)] w fun e w' =>∃v',e = .returned v' /\NewB 5 w w' v' []:=by
 refine gG (args:= [(.slice none 0 0)]) Tryz.func54 rfl 8 rfl rfl ?_;have hE:=Acz w;refine gS (AaB Hv rfl (cT rfl (Az rfl (vr (AdI none 0 0) rfl) ?_)));exact⟨_,rfl,⟨Ae7 _ _ _ 1,hE.grown⟩⟩
theorem YC(w:Ads)(a:Addr)(c:Nat)(l:Ai1)(hr:RB w (.slice (some a) l.length c) l)(hl:l.length<1099511627776):
  Calls Adt 54 #[(.slice (some a) l.length c)] w fun e w' =>∃v',e = .returned v' /\NewB 5 w w' v' l:=by
 refine gG (args:= [(.slice (some a) l.length c)]) Tryz.func54 rfl 8 rfl rfl ?_;have hE:=Acz w;refine gS (AaB Hv rfl (cF rfl (gS (Acp TN fun g j h=> ?_))));have b:=h.own;have hE:=hE.trans h.ext;refine gS (AaA _ _ w.heap.size (.int .u8 0) Hv QE rfl Hv (([]:Ai1)) (l) (Hu b (vr g rfl)) (Aaf (hr.keep hE) (vr (.slice (some a) l.length c) rfl)) (by simp only[List.length_nil];omega) hE.size fun i k m f=> ?_);have f:Grew j k g i:=f;have hE:=Bz hE f b (Adw _);clear b;refine Az rfl (vr i rfl) ?_;exact⟨_,rfl,⟨(show Aiw _ _ _ _ _ _ _ from by simpa using m),hE.grown⟩⟩
theorem M1(w:Ads)(v:Adr)(l:Ai1)(h:RB w v l)(hl:l.length<1099511627776):
  Calls Adt 54 #[v] w fun e w' =>∃v',e = .returned v' /\NewB 5 w w' v' l:=by
 obtain⟨h1,ao,cap,rfl,h2,h3,h4,h5⟩:=id h;cases ao with
 | none=>
  have hl:=h4 rfl;have:l= []:=Aep hl.1;subst this;rw[show cap=0 from hl.2];exact YB w
 | some a=>exact YC w a cap l h hl
theorem Xq(w0 w:Ads)(H:Dk)(D:Ak)(hS:DkS w0.heap.size w H D)(s:Ai1)(hL:EV D):
  Calls Adt 30 #[PQ H.g 0,St s] w fun e w' =>∃v,e = .returned (.tuple #[v,NI (Bo D s).2])/\w'.ownsRow w.heap.size 5 1 v (Bo D s).1.length (Lib.byteCells (Bo D s).1)/\Ext w w' :=by
 have hb:=hS.blk;have hgl:=(bl hb);have c:=hS;refine gG (args:= [PQ H.g 0,St (s)]) Tryz.func30 rfl 22 rfl rfl ?_;have hE:=Acz w;rcases hV0:DZ D [] s with ce | k
 ·have hV:Bo D s=([],ce):=by unfold Bo;rw[HW,hV0]
  have hce:=JX hV0;refine gS (Z5 FI rfl rfl rfl (((show Calls _ _ _ _ (fun e w2=>e = .returned (.tuple #[.pointer none,NI ce])/\Ext _ w2)from by have h:=Gd w0.heap.size _ H D (hS.keep hE) s ((AdI none 0 0)) [] (.inl ⟨rfl,rfl⟩) (by simp);rw[hV0]at h;exact h)).mono ?_));rintro e n ⟨rfl,j⟩;refine⟨_,rfl,?_⟩;refine gS (AcB (vs:= [.pointer none,NI ce]) rfl rfl (gS (AcB (vs:= [.pointer none,NI ce]) rfl rfl (gS (ZO (a:=(ce:Nat)) (b:=(0:Nat)) rfl rfl (AX _ _ _ _) (kT (by omega) (cT rfl (Ei rfl (vr (AdI none 0 0) rfl) (vr (NI ce) rfl) ?_))))))));have hE:=hE.trans j;exact⟨_,by rw[hV],by rw[hV];exact Ae7 _ _ _ 1,hE⟩
 have hV:Bo D s=((Ar D k).1,0):=by unfold Bo;rw[HW,hV0]
 obtain⟨hdn,hlk,hms⟩:=JY hV0;have hkl:=(c.ok.now.look hlk).1;have hfa:=c.files.at_ k hkl;have hfb:=hfa.blk;have hfr:RB w (H.V k) (D.files.getD k ([],0)).1:=Z8 hfa.row;have hlb:=hL.files _ (DS (d:=([],0)) hkl);refine gS (Z5 FI rfl rfl rfl (((show Calls _ _ _ _ (fun e w2=>e = .returned (.tuple #[.pointer (some ⟨(H.F k),0,none⟩),NI 0])/\Ext _ w2)from by have h:=Gd w0.heap.size _ H D (hS.keep hE) s ((AdI none 0 0)) [] (.inl ⟨rfl,rfl⟩) (by simp);rw[hV0]at h;exact h)).mono ?_));rintro e o ⟨rfl,f⟩;refine⟨_,rfl,?_⟩;have hE:=hE.trans f;refine gS (AcB (vs:= [.pointer (some ⟨(H.F k),0,none⟩),NI 0]) rfl rfl (gS (AcB (vs:= [.pointer (some ⟨(H.F k),0,none⟩),NI 0]) rfl rfl (gS (ZO (a:=(0:Nat)) (b:=(0:Nat)) rfl rfl (AX _ _ _ _) (kF (by decide) (cF rfl (gS (AcA rfl (gS (Acy PM rfl (gS (ZN Hv rfl rfl (Ac (eb hE hfb) rfl) (gS (ZP Vy rfl ((M1 _ (H.V k) ((D.files.getD k ([],0)).1) (hfr.keep hE) (by omega)).mono ?_))))))))))))))));rintro e p ⟨l,rfl,i⟩;refine⟨_,rfl,?_⟩;have q:=hE.size;have hb:=eb f hb;have m:=i.own;refine Ei rfl (vr l rfl) (vr (NI 0) rfl) ?_;have hE:=hE.trans i.ext;exact⟨_,by rw[hV],by rw[hV];exact AN m (by omega),hE⟩
theorem Vz(base:Nat)(w:Ads)(H:Dk)(D:Ak)(hS:DkS base w H D):
  Calls Adt 20 #[PQ H.g 0] w fun e w' =>e = .returned (.bool D.down)/\Ext w w' :=by
 have hb:=hS.blk;have hgl:=(bl hb);refine gG (args:= [PQ H.g 0]) Tryz.func20 rfl 11 rfl rfl ?_;have hE:=Acz w;refine gS (Abg Vn rfl (gS (AcA rfl (gS (Acy Ru rfl (gS (ZN UW rfl rfl (Ac hb rfl) (gS (Z1 rfl rfl (Az rfl (vr (.bool (D.down)) rfl) ?_))))))))));exact⟨rfl,hE⟩
theorem YD(w0 w:Ads)(b:Ext w0 w)(H:Dk)(D:Ak)(hS:DkS w0.heap.size w H D)(n:Int):
  Calls Adt 19 #[PQ H.g 0, .int .i64 n] w fun e w' =>e = .returned (.tuple #[])/\DkT w0.heap.size w H D w' H { D with arm:=n.toNat } :=by
 have hb:=hS.blk;have hgl:=(bl hb);have hgl0:=hS.lo.1;have hsz0:=b.size;have c:=hS;have hgr:=AdZ w (some H.g);refine gG (args:= [PQ H.g 0, .int .i64 (n:Int)]) Tryz.func19 rfl 11 rfl rfl ?_;have hE:=Acz w;refine gS (Abg Vn rfl (cT rfl (gS (Acr rfl rfl (gS (AcA rfl (gS (Acy Dh rfl (gS (ZS (i:=5) (v:=NI n.toNat) rfl rfl hb (AdD rfl) DR rfl rfl fun w2 a f h=> ?_))))))))));have hgr:w.grownBy w2 (some H.g):=Aa hgr f (fun _ e=> .inl e);clear hE;clear hb;have hb:=a;clear a;have j:=bl hb;refine Gm rfl ?_;exact⟨rfl,c.setBlkT hgr hb⟩
theorem RG.kept{α:Type}{k:Nat}{enc:α->List Adr}{w w' :Ads}{v:Adr}{l:List α}(h:RG k enc w v l){row:Option Nat}(hg:w.grownBy w' row)(hv:v.ownBlock=none\/v.ownBlock≠row):RG k enc w' v l:=by
 refine⟨h.1,?_⟩;obtain⟨h1,ao,cap,rfl,h2,h3,h4,h5⟩:=h.2;refine⟨h1,ao,cap,rfl,h2,h3,h4,fun a ha j u hu=> ?_⟩;have hc:=h5 a ha j u hu;subst ha;have hlt:=AeD w _ hc;have hbl:(a.add j).block=a.block:=by unfold Addr.add;split <;> rfl
 have hne:(some a.block)≠row:=by
  rcases hv with hv | hv
  ·cases hv
  ·exact hv
 rw[hbl]at hlt;rw[World.cell?_of_block (w:=w) (by rw[hbl];exact hg.block a.block hlt hne)];exact hc
theorem OP(t:Ady)(a b:Int)(hb:b≠0):Aea .rem t (.int .i64 a) (.int .i64 b)=pure (.int .i64 (Af4 a b)):=by
 unfold Aea;simp only[ne_eq,not_true_eq_false,if_false,Op.intDiv];rw[if_neg hb]
theorem Qq(x:Int)(m:Nat): -(m:Int)<=Af4 x ((m+1:Nat):Int)/\Af4 x ((m+1:Nat):Int)<=m:=by
 have h1:=Int.tmod_lt_of_pos x (show(0:Int)<((m+1:Nat):Int) by omega);have h2:=Int.lt_tmod_of_pos x (show(0:Int)<((m+1:Nat):Int) by omega);omega
theorem Xr(t:Ady)(x:Int)(m:Nat)(y:Int)(hy:y=Af4 x ((m+1:Nat):Int)+m+1):Aea .rem t (.int .i64 y) (NI (m+1))=pure (NI (AfT x ((m+1:Nat):Int)).toNat):=by
 have hb:=Qq x m;have h:=OP t y ((m+1:Nat):Int) (by omega);refine h.trans ?_;have a:Af4 y ((m+1:Nat):Int)=AfT y ((m+1:Nat):Int):=Int.tmod_eq_emod_of_nonneg (by omega);have b:AfT y ((m+1:Nat):Int)=AfT x ((m+1:Nat):Int):=by
  have h3:Af4 x ((m+1:Nat):Int)=x-((m+1:Nat):Int)*Int.tdiv x ((m+1:Nat):Int):=Int.tmod_def _ _;have h4:y=x+((m+1:Nat):Int)*(1-Int.tdiv x ((m+1:Nat):Int)):=by
   rw[hy,h3,Int.mul_sub,Int.mul_one];omega
  show y%_=x%_;rw[h4,Int.add_mul_emod_self_left]
 have h5:0<=AfT x ((m+1:Nat):Int):=Int.emod_nonneg x (show((m+1:Nat):Int)≠0 by omega);rw[a,b];show pure (AfL .i64 (AfT x _))=pure (AfL .i64 (((AfT x ((m+1:Nat):Int)).toNat:Nat):Int));rw[Int.toNat_of_nonneg h5]
def C4(q:Nat):Ak:=⟨q,[],[],[],[],0,0,false⟩
theorem Xs(q:Nat):DOk (C4 q):=⟨Adq _,Adq _,fun a h=>(by cases h),fun x h=>(by cases h)⟩
theorem AbZ{P:AdM}{K:Adr->Ads->Prop}{ρ:Aj}{w:Ads}{d:Option Tmp}{t ty:Ady}{pos:String}{af:Array Edge}{gd:Option (Nat × Bool)}{i0 i1 i2:Nat}{x0 x1 x2:AdC}{a b c v:Adr}(h0:Ab ρ x0=a)(h1:Ab ρ x1=b)(h2:Ab ρ x2=c)(hr:∀w:Ads,(Aew t #[(i0,a),(i1,b),(i2,c)]).run P w = .ok v w)(hk:K v w):Yk P K ((execOp (Ab ρ) ⟨d, .build t #[(i0,x0),(i1,x1),(i2,x2)],ty,pos,af,gd⟩).run P w):=
 Yk.build (by simp[h0,h1,h2]) hr hk
theorem Xt(q:Int)(a b:Nat)(w:Ads):(Aew 82 #[(0, .int .i64 q),(1, .map (some a)),(2, .map (some b))]).run Adt w = .ok (.agg #[.int .i64 q, .map (some a), .map (some b), .slice none 0 0,NI 0,NI 0, .bool false]) w:=by kernel_rfl
theorem EA:Tryz.prog.underlying 42=some (.slice 3):=by kernel_rfl
theorem VA:∀w' :Ads,(sizeOf 3).run Adt w' = .ok 1 w' :=fun _=>by kernel_rfl
theorem TO:(Tryz.prog.info? 42).map (·.size)=some 1:=by kernel_rfl
theorem YE(w:Ads)(q:Nat)(hq:q<=1073741824):
  Calls Adt 9 #[NI q] w fun e w' =>∃H,e = .returned (PQ H.g 0)/\DkS w.heap.size w' H (C4 q)/\Ext w w' :=by
 refine gG (args:= [NI q]) Tryz.func9 rfl 14 rfl rfl ?_;have hE:=Acz w;refine gS (ZO (a:=(q:Nat)) (b:=(0:Nat)) rfl rfl (Bg _ _ _ _) (kF (by omega) (gS (ZO (a:=(q:Nat)) (b:=(1073741824:Nat)) rfl rfl (CM _ _ _ _) (kF (by omega) (gS (Z4 rfl rfl (cF rfl ?_))))))));have v:=hE.size;refine gS (AaV St (pF (fun _=>0)) Nm fun c p x hm8 r y=> ?_);have z:c<p.heap.size:=by omega
 have hE:=hE.trans r;have aa:=hE.size;refine gS (AaV St (pF (fun _=>0)) Nm fun f s ab hm16 m ac=> ?_);have ad:f<s.heap.size:=by omega
 refine gS (AbZ rfl rfl rfl (fun w=>Xt _ _ _ w) (gS (AcP (vr (.agg (Ju q c f (.slice none 0 0) 0 0 false).toArray) rfl) fun h t n o l ae=> ?_)));have hE:=hE.trans m;have af:=hE.size;have hm8:=hm8.keep m;have ag:=AO hm8.lt n;have ah:=AO hm16.lt n;have u:=o;clear o;have ai:h<t.heap.size:=by omega
 refine Az rfl (vr (PQ h 0) rfl) ?_;have hE:=hE.trans l;have hm8:=hm8.keep l;have hm16:=hm16.keep l;exact⟨⟨h,c,f, .slice none 0 0,fun _=>0,fun _=> .slice none 0 0⟩,rfl,⟨u,hm8,hm16,by show c≠f;omega,⟨[],Ae7 _ _ _ 1,rfl,fun i hi=>absurd hi (Aex _)⟩,⟨fun k hk=>absurd hk (Aex _),fun i j hi=>absurd hi (Aex _),fun i j hi=>absurd hi (Aex _)⟩,Xs q,by show _<=h/\_<=c/\_<=f;omega⟩,hE⟩
theorem YF(w:Ads)(bf:Nat)(vf:Adr)(fs:List Int)(hbf:w.heap[bf]? =some (.cells ([vf]).toArray 42 (0,0)))(hrf:RG 1 IO w vf fs)(m:Nat)(hm:m<4611686018427387904)(hf:fs.length=0):
  Calls Adt 50 #[NI m,PQ bf 0] w fun e w' =>e = .returned (NI 0)/\Ext w w' :=by
 have hbl:=(bl hbf);have hgr:=AdZ w (some bf);refine gG (args:= [NI m,PQ bf 0]) Tryz.func50 rfl 23 rfl rfl ?_;have hE:=Acz w;refine gS (ZN EA rfl rfl (Ac hbf rfl) (gS (ZZ EA (ZU hrf rfl) (gS (ZO (a:=(fs.length:Nat)) (b:=(0:Nat)) rfl rfl (AI _ _ _ _) (kT (by omega) (cT rfl (Az rfl (vr (NI 0) rfl) ?_))))))));exact⟨rfl,hE⟩
theorem YG(w:Ads)(bf:Nat)(vf:Adr)(fs:List Int)(hbf:w.heap[bf]? =some (.cells ([vf]).toArray 42 (0,0)))(hrf:RG 1 IO w vf fs)(hap:OB vf bf)(m:Nat)(hm:m<4611686018427387904)(hf:0<fs.length):
  Calls Adt 50 #[NI m,PQ bf 0] w fun e w' =>∃v',e = .returned (NI (AfT (fs.getD 0 0) ((m+1:Nat):Int)).toNat)/\w'.heap[bf]? =some (.cells ([v']).toArray 42 (0,0))/\RG 1 IO w' v' (fs.drop 1)/\v'.ownBlock=vf.ownBlock/\w.grownBy w' (some bf):=by
 have hbl:=(bl hbf);have hgr:=AdZ w (some bf);refine gG (args:= [NI m,PQ bf 0]) Tryz.func50 rfl 23 rfl rfl ?_;have hE:=Acz w;refine gS (ZN EA rfl rfl (Ac hbf rfl) (gS (ZZ EA (ZU hrf rfl) (gS (ZO (a:=(fs.length:Nat)) (b:=(0:Nat)) rfl rfl (AI _ _ _ _) (kF (by omega) (cF rfl (gS (ZN EA rfl rfl (Ac hbf rfl) ?_)))))))));have o:(IO (fs.getD (0) (0:Int))).length=1:=(AcL hrf (0:Int) (by omega));refine gS (Z3 EA VA (by decide) (0:Int) (ZU hrf rfl) rfl (by omega) fun p h=>(gS (Aab Oa rfl (PR.cell (Aaa h rfl) rfl) ?_)));clear h;refine gS (ZN EA rfl rfl (Ac hbf rfl) (gS (AbE (l:=1) EA VA rfl hrf rfl (by omega) fun f c hown11=> ?_)));have hown:=hown11;have k:OB f bf:=fun e=>hap (hown.symm.trans e);refine gS (ZS (i:=0) (v:=f) rfl rfl hbf (AdD rfl) TO (AcD c).1 (AcD c).2 fun n j g q=> ?_);have hrf:=RG.kept hrf g (.inr hap);have hgr:w.grownBy n (some bf):=Aa hgr g (fun _ e=> .inl e);clear hE;have c:=RG.kept c g (.inr k);clear hbf;have hbf:=j;clear j;have r:=bl hbf;have hbd:=Qq (fs.getD 0 0) m;refine gS (ZV (xv:=NI m) (yv:=NI 1) rfl rfl rfl (AF _ _ _ (by omega)) (gS (ZV (xv:= .int .i64 (fs.getD (0) (0:Int))) (yv:=NI ((m)+(1))) rfl rfl rfl (OP _ (fs.getD (0) (0:Int)) _ (by omega)) (gS (ZV (xv:= .int .i64 ((Af4 (fs.getD (0) (0:Int)) ((m+1:Nat):Int)))) (yv:= .int .i64 (((m:Nat):Int))) rfl rfl rfl (Th _ ((Af4 (fs.getD (0) (0:Int)) ((m+1:Nat):Int))) (((m:Nat):Int)) (by omega)) (gS (ZV (xv:= .int .i64 ((((Af4 (fs.getD (0) (0:Int)) ((m+1:Nat):Int)))+(((m:Nat):Int))))) (yv:= .int .i64 (((1:Nat):Int))) rfl rfl rfl (Th _ ((((Af4 (fs.getD (0) (0:Int)) ((m+1:Nat):Int)))+(((m:Nat):Int)))) (((1:Nat):Int)) (by omega)) (gS (ZV (xv:=NI m) (yv:=NI 1) rfl rfl rfl (AF _ _ _ (by omega)) (gS (ZV (xv:= .int .i64 ((((((Af4 (fs.getD (0) (0:Int)) ((m+1:Nat):Int)))+(((m:Nat):Int))))+(((1:Nat):Int))))) (yv:=NI ((m)+(1))) rfl rfl rfl (Xr _ (fs.getD 0 0) m _ (by omega)) (Az rfl (vr (NI ((AfT (fs.getD 0 0) ((m+1:Nat):Int)).toNat)) rfl) ?_))))))))))));exact⟨f,rfl,hbf,c,hown,hgr⟩
def Iz(D:Ak)(n:Nat):Bh:=(D.acts.take n).foldl turnD D.kept
theorem RD{D:Ak}{n:Nat}(h:n<D.acts.length):Iz D (n+1)=turnD (Iz D n) (D.acts.getD n ⟨[],[],0⟩):=by
 unfold Iz;rw[AeW h,List.foldl_append,Adz,AdE h];rfl
theorem VB{D:Ak}(h:DOk D)(n:Nat):DirOk D.files.length (Iz D n):=h.kept.fold fun a ha=>h.acts a ((AgM _ _).subset ha)
theorem RE(D:Ak)(l:List Int):Iz D (BK l 0 (D.acts.length+1))=AM D l:=rfl
def E6(D:Ak)(l:List Int)(L:Bh)(n:Nat):List (Ai1 × Nat):=(L.take n).mapIdx fun i e=>Fv D l i e.2
def Eh(L:Bh)(n:Nat):Bh:=Dg (L.take n)
theorem Kp{α β:Type}(f:Nat->α->β)(l:List α)(a:α):(l++ [a]).mapIdx f=l.mapIdx f++ [f l.length a]:=by
 rw[List.mapIdx_append];simp
theorem TP{D:Ak}{l:List Int}{L:Bh}{n:Nat}(h:n<L.length):E6 D l L (n+1)=E6 D l L n++ [Fv D l n (L.getD n ([],0)).2]:=by
 unfold E6;rw[AeW h,Kp,AdS,Agc (by omega),Adz,AdE h];rfl
theorem numN_succ{L:Bh}{n:Nat}(h:n<L.length):Eh L (n+1)=Eh L n++ [((L.getD n ([],0)).1,n)]:=by
 unfold Eh Dg;rw[AeW h,Kp,AdS,Agc (by omega),Adz,AdE h];rfl
theorem VC(D:Ak)(l:List Int)(L:Bh){n:Nat}(h:n<=L.length):(E6 D l L n).length=n:=by
 unfold E6;rw[AgI,AdS];omega
theorem TQ{L:Bh}(hs:DH L){n:Nat}(h:n<L.length):lookD (Eh L n) (L.getD n ([],0)).1=none:=by
 refine Gb.2 fun e he q=> ?_;have h1:e.1∈(Eh L n).map Aet:=AfF he;unfold Eh at h1;rw[GT]at h1;obtain⟨x,hx,hxe⟩:=Aeq.1 h1;obtain⟨j,hj,hjx⟩:=AeB.1 hx;rw[AdS]at hj;rw[List.getElem_take]at hjx;have h2:=Afy.1 hs j n (by omega) h (by omega);rw[Adz,AdE h,Option.getD_some]at q;rw[hjx,hxe,q,Ga]at h2;cases h2
theorem VD{L:Bh}(hs:DH L){n:Nat}(h:n<L.length):updM (lookD (Eh L n)) (L.getD n ([],0)).1 (some n)=lookD (Eh L (n+1)):=by
 funext t
 rw[numN_succ h,Iu];unfold updM;by_cases ht:t=(L.getD n ([],0)).1
 ·rw[if_pos ht,ht,TQ hs h];show _=lookD [_] _;rw[Cz,if_pos rfl]
 ·rw[if_neg ht];rw[Cz,if_neg (fun q=>ht q.symm)];show _=(lookD (Eh L n) t).or none;rw[Option.or_none]
theorem GV(D:Ak)(l:List Int):A8 D l = { quota:=D.quota,files:=E6 D l (AM D l) (AM D l).length,now:=Eh (AM D l) (AM D l).length,kept:=Eh (AM D l) (AM D l).length,acts:= [],refused:=D.refused,arm:=0,down:=false } :=by
 unfold A8 E6 Eh;rw[List.take_length]
theorem Xu{L:Bh}{n:Nat}{s:Ai1}{k:Nat}(h:lookD (Eh L n) s=some k):k<n:=by
 have:=E5 h;unfold Eh Dg at this;obtain⟨i,hi,he⟩:=AgF.1 this;rw[AdS]at hi;cases he;omega
theorem Aby{base:Nat}{w:Ads}{F:Nat->Nat}{V:Nat->Adr}{fs:List (Ai1 × Nat)}(h:FilesAt base w F V fs){f:Nat}{v:Adr}{x:Ai1 × Nat}(hf:FileAt base w f v x)(h1:∀k,k<fs.length->F k≠f)(h2:∀k,k<fs.length->∀i,(V k).ownBlock=some i->v.ownBlock≠some i):
  FilesAt base w (Bn F fs.length f) (Bn V fs.length v) (fs++ [x]):=by
 refine⟨fun k hk=> ?_,fun i j hi hj e=> ?_,fun i j hi hj hne y hy=> ?_⟩
 ·rw[Adx,Ad4]at hk;by_cases e:k=fs.length
  ·subst e;rw[BV,BV,Ge];exact hf
  ·have hk' :k<fs.length:=by omega
   rw[BF _ _ hk',BF _ _ hk',getD_left hk'];exact h.at_ k hk'
 ·rw[Adx,Ad4]at hi hj;by_cases ei:i=fs.length <;> by_cases ej:j=fs.length
  ·omega
  ·rw[ei,BV,BF _ _ (by omega:j<fs.length)]at e;exact absurd e.symm (h1 j (by omega))
  ·rw[ej,BV,BF _ _ (by omega:i<fs.length)]at e;exact absurd e (h1 i (by omega))
  ·rw[BF _ _ (by omega:i<fs.length),BF _ _ (by omega:j<fs.length)]at e;exact h.inj i j (by omega) (by omega) e
 ·rw[Adx,Ad4]at hi hj;by_cases ei:i=fs.length
  ·rw[ei,BV]at hy;rw[BF _ _ (by omega:j<fs.length)];exact fun q=>h2 j (by omega) y q hy
  ·rw[BF _ _ (by omega:i<fs.length)]at hy;by_cases ej:j=fs.length
   ·rw[ej,BV];exact h2 i (by omega) y hy
   ·rw[BF _ _ (by omega:j<fs.length)];exact h.apart i j (by omega) (by omega) hne y hy
section
variable {base : Nat} {w w' : Ads} {H : Dk} {D : Ak}
theorem FilesAt.setT{F:Nat->Nat}{V:Nat->Adr}{fs:List (Ai1 × Nat)}(h:FilesAt base w F V fs){g x:Nat}(hg:w.grownBy w' (some g))(ht:CV w g=some x)(h1:x≠120+1)(h2:x≠5+1):FilesAt base w' F V fs:=
 h.chg (B:=fun i=>i=g) (Aap hg fun i e=> .inl (AdY e).symm) fun k hk=>
  ⟨fun e=>BO (Bu (h.at_ k hk).blk) ht (fun q=>h1 q.symm) e,fun i hi e=>BO (Fe (h.at_ k hk).row hi) ht (fun q=>h2 q.symm) e⟩
theorem FilesAt.keep{F:Nat->Nat}{V:Nat->Adr}{fs:List (Ai1 × Nat)}(h:FilesAt base w F V fs)(hE:Ext w w'):FilesAt base w' F V fs:=FilesAt.chg h (B:=fun _=>False) (Ac5 hE) fun _ _=>⟨fun q=>q,fun _ _ q=>q⟩
theorem FilesAt.low{F:Nat->Nat}{V:Nat->Adr}{fs:List (Ai1 × Nat)}(h:FilesAt base w F V fs){b' :Nat}(hb:b' <=base):FilesAt b' w F V fs:=⟨fun k hk=>⟨(h.at_ k hk).blk,AN (h.at_ k hk).row hb,Adu hb (h.at_ k hk).lo⟩,h.inj,h.apart⟩
theorem FilesAt.nil(F:Nat->Nat)(V:Nat->Adr):FilesAt base w F V []:=⟨fun k hk=>absurd hk (Aex _),fun i j hi=>absurd hi (Aex _),fun i j hi=>absurd hi (Aex _)⟩
theorem DkS.crashed(h:DkS base w H D){l:List Int}{F' :Nat->Nat}{V' :Nat->Adr}{na nb:Nat}(h0:base<=w.heap.size)(hc:Chg (fun i=>i=H.g) w w')(hb:w'.heap[H.g]? =some (.cells (Ju D.quota na nb (.slice none 0 0) D.refused 0 false).toArray 82 (0,0))) 
  (ha:MapF St (pF F') Nm w' na (lookD (Eh (AM D l) (AM D l).length))) (hk:MapF St (pF F') Nm w' nb (lookD (Eh (AM D l) (AM D l).length))) (hne:na≠nb) (hna:w.heap.size<=na) (hnb:w.heap.size<=nb)
  (hf:FilesAt w.heap.size w' F' V' (E6 D l (AM D l) (AM D l).length)):DkT base w H D w' ⟨H.g,na,nb, .slice none 0 0,F',V'⟩ (A8 D l):=by
 have hok:=h.ok.crash l;have hl:(A8 D l).files.length=(E6 D l (AM D l) (AM D l).length).length:=by rw[GV]
 refine⟨⟨by rw[GV];exact hb,by rw[GV];exact ha,by rw[GV];exact hk,hne,⟨[],Ae7 _ _ _ 1,rfl,fun i hi=>absurd hi (Aex _)⟩,by rw[GV];exact hf.low h0,hok,⟨h.lo.1,Adu h0 hna,Adu h0 hnb⟩⟩,rfl,hc.mono fun i _ e=> .inl e,fun i hi=> ?_⟩;rcases hi with e | e | e | e | ⟨k,hk',e⟩
 ·exact .inl (.inl e)
 ·exact .inr ((show i=na from e)▸hna)
 ·exact .inr ((show i=nb from e)▸hnb)
 ·cases(show(none:Option Nat)=some i from e)
 ·rw[hl]at hk';rcases e with e | e
  ·exact .inr ((show i=F' k from e)▸(hf.at_ k hk').lo)
  ·exact .inr (((hf.at_ k hk').row.lt i e).1)
end
def FAt(n0:Nat)(w:Ads)(v:Adr)(l:List Int):Prop:=RG 1 (fun n:Int=> [AfL .i64 n]) w v l/\(l= []\/∃b,v.ownBlock=some b/\b<n0)
theorem RF{α:Type}{k:Nat}{enc:α->List Adr}{w w' :Ads}{v:Adr}(h:RG k enc w v ([]:List α)):RG k enc w' v []:=by
 obtain⟨h0,h1,ao,cap,rfl,h2,h3,h4,h5⟩:=h;exact⟨h0,h1,ao,cap,rfl,h2,h3,h4,fun a _ j u hu=>by simp at hu⟩
theorem FAt.keep{a:Nat}{w w' :Ads}{v:Adr}{l:List Int}(h:FAt a w v l)(hE:Ext w w'):FAt a w' v l:=⟨h.1.keep hE,h.2⟩
theorem Acv{w:Ads}{v:Adr}{l:List Int}(h:RG 1 (fun n:Int=> [AfL .i64 n]) w v l):FAt w.heap.size w v l:=by
 refine⟨h,?_⟩;cases l with
 | nil=>exact .inl rfl
 | cons x r=>
  obtain⟨-,h1,ao,cap,rfl,h2,h3,h4,h5⟩:=id h;cases ao with
  | none=>exact absurd (h4 rfl).1 (by simp)
  | some a=>
   have hc:=h5 a rfl 0 (.int .i64 x) (by simp);have hl:=AeD w _ hc;refine .inr ⟨a.block,rfl,?_⟩;have e:(a.add 0).block=a.block:=by unfold Addr.add;split <;> rfl
   rwa [e]at hl
theorem TS{α:Type}{l:List α}{n i:Nat}{d:α}(h:i<n):(l.take n).getD i d=l.getD i d:=by
 rw[Adz,List.getElem?_take_of_lt h,<-Adz]
theorem VE{l:Bh}{j:Nat}(h:j<l.length):(l.map Aet).getD j []=(l.getD j ([],0)).1:=by
 rw[Adz,Adz,List.getElem?_map,AdE h];rfl
theorem OQ:∀(acs:List B5) (l:Bh),(acs.foldl turnD l).length<=l.length+acs.length
 | [],l=>Adw _
 | a :: r,l=>by
  have h1:=OQ r (turnD l a);have h2:=OF l a;rw[List.foldl_cons,AdJ];omega
theorem OR(D:Ak)(fs:List Int):(AM D fs).length<=D.kept.length+D.acts.length:=by
 have h:=OQ (D.acts.take (BK fs 0 (D.acts.length+1))) D.kept;rw[AdS]at h;unfold AM;omega
theorem FAt.set{a:Nat}{w w' :Ads}{v:Adr}{l:List Int}(h:FAt a w v l){g:Nat}(hg:w.grownBy w' (some g))(hn:a<=g):FAt a w' v l:=by
 rcases h.2 with rfl | ⟨b,hb,hl⟩
 ·exact⟨RF h.1, .inl rfl⟩
 ·exact⟨h.1.kept hg (.inr (fun e=>by have:=AdY (hb.symm.trans e);omega)), .inr ⟨b,hb,hl⟩⟩
theorem OS(w:Ads)(a bf:Nat)(hn:a<=bf)(vf:Adr)(fs:List Int)(i:Nat)(hbf:w.heap[bf]? =some (.cells ([vf]).toArray 42 (0,0)))(hF:FAt a w vf (fs.drop i))(m:Nat)(hm:m<4611686018427387904):
  Calls Adt 50 #[NI m,PQ bf 0] w fun e w' =>∃v',e = .returned (NI (BK fs i (m+1)))/\w'.heap[bf]? =some (.cells ([v']).toArray 42 (0,0))/\FAt a w' v' (fs.drop (i+1))/\w.grownBy w' (some bf):=by
 by_cases hi:i<fs.length
 ·have hl:0<(fs.drop i).length:=by rw[List.length_drop];omega
  rcases hF.2 with h0 | ⟨b,hb,hlt⟩
  ·rw[h0]at hl;exact absurd hl (Ahm _)
  ·refine(YG w bf vf (fs.drop i) hbf hF.1 (fun e=>by have:=AdY (hb.symm.trans e);omega) m hm hl).mono fun e w' q=> ?_;obtain⟨v',h1,h2,h3,h4,h5⟩:=q;refine⟨v',?_,h2,⟨by rw[List.drop_drop]at h3;exact h3, .inr ⟨b,h4.trans hb,hlt⟩⟩,h5⟩;rw[h1];unfold BK;rw[if_pos hi,Adz,List.getElem?_drop,Nat.add_zero,<-Adz]
 ·have h0:fs.drop i= []:=Aie (by omega);have h1:fs.drop (i+1)= []:=Aie (by omega);rw[h0]at hF;refine(YF w bf vf [] hbf hF.1 m hm rfl).mono fun e w' q=> ?_;obtain⟨he,hE⟩:=q;exact⟨vf,by rw[he];unfold BK;rw[if_neg hi],(eb hE hbf),by rw[h1];exact hF.keep hE,Aa (AdZ w (some bf)) hE.grown (fun _ e=>by cases e)⟩
theorem OT:Plain Adt 50:=fun _ _=>by kernel_rfl
theorem TT:∀w' :Ads,(sizeOf 113).run Adt w' = .ok 1 w' :=fun _=>by kernel_rfl
theorem TU:Tryz.prog.underlying 113=some (.func #[79] #[] false):=by kernel_rfl
theorem VF:Plain Adt 53:=fun _ _=>by kernel_rfl
theorem VG:Plain Adt 52:=fun _ _=>by kernel_rfl
theorem YH(ao:Option Addr)(n c:Nat)(z:Int)(w:Ads):(Aew 120 #[(0, .slice ao n c),(1, .int .i64 z)]).run Adt w = .ok (.agg #[.slice ao n c, .int .i64 z]) w:=by kernel_rfl
theorem VH(w0 w:Ads)(ax:Ext w0 w)(H:Dk)(D:Ak)(hS:DkS w0.heap.size w H D)(vf:Adr)(fs:List Int)(hrf:RG 1 (fun n:Int=> [AfL .i64 n]) w vf fs)(hL:EV D):
  Calls Adt 21 #[PQ H.g 0,vf] w fun e w' =>∃H',e = .returned (.tuple #[])/\DkT w0.heap.size w H D w' H' (A8 D fs):=by
 have hb:=hS.blk;have hgl:=(bl hb);have hgl0:=hS.lo.1;have hsz0:=ax.size;have t:=hS;have bs:=ax;obtain⟨vs,hvs⟩:=hS.acts;have hvl:=hvs.len;have hva:RG 1 Km w H.va vs:=ZQ (⟨fun _ _=>rfl,by rw[enV_flat];exact hvs.row⟩:OG w0.heap.size 113 1 Km w H.va vs);have hFA:=Acv hrf;have hact:=hL.acts;refine gG (args:= [PQ H.g 0,vf]) Tryz.func21 rfl 102 rfl rfl ?_;have hE:=Acz w;refine gS (Aat (vr vf rfl) (AcD (hrf.keep hE)).1 fun p w3 cd a6 a7 ce=> ?_);have m:=Acz w;have cf:=hE.size;have cg:=ax.size;have r:=a6;clear a6;have ch:p<w3.heap.size:=by omega
 have m:=m.trans a7;have hFA:FAt w.heap.size w3 vf (fs.drop 0):=(hFA.keep m);have hbfw:w.heap.size<=p:=by omega
 have hbfl:p<w3.heap.size:=(bl r);have hE:=hE.trans a7;refine gS (Aas Vn rfl (kB (rfl) (cF rfl (gS (Aac (vs:= #[PQ p 0]) (by simp only[AdH,AdK,AdO];exact congrArg Ad2 (FP (vr (PQ p 0) rfl))) (gS (AcA rfl (gS (Acy RA rfl (gS (ZN OJ rfl rfl (Ac (eb hE hb) rfl) (gS (ZP Vt rfl ((Jw _ (hS.keep hE).kept).mono ?_))))))))))))));rintro e a8 ⟨nl,rfl,hnl,hml,az⟩;refine⟨_,rfl,?_⟩;have hFA:FAt w.heap.size a8 vf (fs.drop 0):=(hFA.keep az);have hE:=hE.trans az;have hnlw:w.heap.size<=nl:=by have:=hE.size;omega
 have hnb:p≠nl:=by omega
 have hml:MapF St (pF H.F) Nm a8 nl (lookD (Iz D 0)):=hml;have hnll:=hml.lt;refine Ev [0,1,2,3,4,5,6,7,8,9,13,10,11,12] [10] [1,2] [3] fun bt ap=> ?_;have hFA:FAt w.heap.size bt vf (fs.drop 0):=(hFA.keep ap);have hE:=hE.trans ap;refine Ew hE ?_;refine yp (AcA rfl zz) (yp (Acy LG rfl zz) (yf (fun _ ⟨hE,_⟩=>ZN KM rfl rfl (Ac (eb hE hb) rfl) zz) (ys (AcA rfl zz) (ys (Acy LG rfl zz) (ys (ZN KM rfl rfl (Ac (eb hE hb) rfl) zz) (ys (ZZ KM (ZU (hva.keep hE) rfl) zz) ?_))))));have hZ1:=az.trans ap;have r:=eb hZ1 r;have htb:=Bu r;refine yI (Aaj OT (caps:= #[PQ p 0]) rfl #[NI vs.length,PQ p 0] (by simp only[AdH,AdK,AdO,Aei,Ad1,Ad9];exact congrArg Ad2 (Cj rfl rfl)) ((OS _ w.heap.size p hbfw vf fs (0) r hFA (vs.length) (by omega)).mono ?_));rintro e ci ⟨af,rfl,a9,hF26,a0⟩;refine⟨_,rfl,?_⟩;have hml:=hml.keep ap;have hml:=AcR hml a0 (CI (by omega));clear hFA;clear r;have r:=a9;clear a9;have hFA:=hF26;clear hF26;have cj:=bl r;have hE:=Ad hE a0 (Adu (Adw _) (by omega));refine⟨⟨hE,trivial⟩,?_⟩;have hnf:BK fs (0) (vs.length+1)<=vs.length:=by have:=Iw fs 0 (n:=vs.length+1) (Nat.succ_pos _);omega
 refine yS (AbF (n:=BK fs (0) (vs.length+1)) KM TT rfl (hva.keep hE) rfl hnf fun aj bu hown33=> ?_);have hvt:=bu;have hvb:Aec aj=H.va.ownBlock:=hown33;have hvnl:OB aj nl:=fun e=>by have h:=hvb.symm.trans e;have:=(hvs.row.lt _ h).2;omega
 have m:=m.trans hZ1;have m:=Ad m a0 (Adu (Adw _) (by omega));refine ys (ZZ KM (ZU hvt rfl) zz) (gL (fun(ρ:Aj) (wz:Ads)=>∃i:Nat,ρ 0=(PQ H.g 0:Adr)/\ρ 1=(vf:Adr)/\ρ 3=(PQ p 0:Adr)/\ρ 4=(.func (.func 50) #[] #[PQ p 0]:Adr)/\ρ 5=(.map (some nl):Adr)/\ρ 14=(.bool (false):Adr)/\ρ 32=(aj:Adr)/\ρ 33=(NI (((vs.take (BK fs (0) (vs.length+1)))).length):Adr)/\ρ 34=(NI i:Adr)/\Ext w wz/\Ext w wz/\wz.heap[p]? =some (.cells ([af]).toArray 42 (0,0))/\FAt w.heap.size wz af (fs.drop (1))/\RG 1 (Km) wz aj (vs.take (BK fs (0) (vs.length+1)))/\MapF St (pF H.F) Nm wz nl (lookD (Iz D i))/\(i<=BK fs (0) (vs.length+1))/\True) (fun ρ _=>(BK fs (0) (vs.length+1))-(intOf (ρ 34)).toNat) ⟨0,rfl,rfl,rfl,rfl,rfl,rfl,rfl,rfl,rfl,hE,m,r,hFA,hvt,hml,AdN _,trivial⟩ ?_);clear hml;clear hE r hFA hvt;rintro bv bw ⟨i,u,T1,T3,T4,T5,aq,ak,al,ag,hE,m,r,hFA,hvt,hml,hi,-⟩;have q34:=ag;refine gS (ZO (a:=(i:Nat)) (b:=(((vs.take (BK fs (0) (vs.length+1)))).length:Nat)) ag al (Bg _ _ _ _) ?_);refine cD rfl (fun a1=> ?_) fun a1=> ?_
 ·have hlt:i<BK fs (0) (vs.length+1):=by have h:=a1;rw[AdS]at h;omega
  have hia:i<D.acts.length:=by have:=Iw fs 0 (n:=vs.length+1) (Nat.succ_pos _);omega
  have hhE:=hE;have hat:ActAt bw H.F ((vs.take (BK fs (0) (vs.length+1))).getD i undef) (D.acts.getD i ⟨[],[],0⟩):=by rw[TS hlt];exact(hvs.at_ i hia).chg (B:=fun _=>False) (Ac5 hhE) (fun _ _ q=>q.elim) rfl
  have haok:=t.ok.acts _ (DS (d:=⟨[],[],0⟩) hia);obtain⟨f,caps,hve,hpl,hcl⟩:=OM hat hml (VB t.ok i) haok;have ck:(Km (((vs.take (BK fs (0) (vs.length+1)))).getD (i) undef)).length=1:=(AcL hvt undef (by omega));refine gS (Z3 KM TT (by decide) undef (ZU hvt ak) ag (by omega) fun cl ba=>(gS (Aab TU rfl (PR.cell (Aaa ba rfl) rfl) ?_)));clear ba;refine gS (AbO hpl rfl hve T5 hcl fun bx hR44=> ?_);have hE:=Ad hE hR44.2 (Adu (Adw _) (by omega));have m:=Ad m hR44.2 (Adu (Adw _) (by omega));have r:=kb hR44.2 r (by omega);have hFA:FAt w.heap.size bx af (fs.drop (1)):=FAt.set hFA hR44.2 (by omega);have hvt:=RG.kept hvt hR44.2 (.inr hvnl);clear hml;have hml:=hR44.1;rw[<-RD hia]at hml;have hnll:=hml.lt;refine gS (ZV (xv:=NI i) (yv:=NI 1) ag rfl rfl (AF _ _ _ (by omega)) (gK (And.intro ⟨i+1,u,T1,T3,T4,T5,aq,ak,al,rfl,hE,m,r,hFA,hvt,hml,by omega,trivial⟩ ?_)));show(BK fs (0) (vs.length+1))-(intOf (NI ((i)+(1)))).toNat<(BK fs (0) (vs.length+1))-(intOf (bv 34)).toNat;rw[q34];simp only[intOf,AdV];omega
 have hie:i=BK fs (0) (vs.length+1):=by have h:=a1;rw[AdS]at h;omega
 rw[hie,hvl,RE]at hml;have hLok:=t.ok.left fs;have hLs:=hLok.sort;have hLl:(AM D fs).length<1099511627776:=Nat.lt_of_le_of_lt (OR D fs) hL.kept;have hzc:=hE.size;have hnlc:=MapF.lt hml;have hbfc:=(bl r);refine gS (AaV St (pF (fun _=>0)) Nm fun na ar cm hm48 a2 cn=> ?_);have hFA:FAt w.heap.size ar af (fs.drop (1)):=(hFA.keep a2);have hnaw:w.heap.size<=na:=by omega
 have hnan:na≠nl:=by omega
 have hnab:na≠p:=by omega
 have hnag:na≠H.g:=by omega
 have hma:MapF St (pF (fun _=>0)) Nm ar na (lookD (Eh (AM D fs) 0)):=hm48;have hnal:=hma.lt;have hml:=hml.keep a2;have hm1:=hml;refine gS (ZP VF T5 ((Vr _ _).mono ?_));rintro e a3 ⟨rfl,hwk⟩;refine⟨_,rfl,?_⟩;have hxk:Ext ar a3:=by rw[hwk];exact(Aeo _ _).alloc (Adw _) _
 have hFA:FAt w.heap.size a3 af (fs.drop (1)):=(hFA.keep hxk);have hZ2:=a2.trans hxk;have hE:=hE.trans hZ2;have hzk:=hE.size;refine gS (ZP VG rfl ((Rz ar a3 hwk hm1 hLok hLl).mono ?_));rintro e bb ⟨vn,rfl,hnr0,au⟩;refine⟨_,rfl,?_⟩;have hFA:FAt w.heap.size bb af (fs.drop (1)):=(hFA.keep au);have hE:=hE.trans au;have hnr:OG w.heap.size 9 1 Gc bb vn ((AM D fs).map Aet):=AcM hnr0 (by have:=hE.size;omega);have hZ3:=hZ2.trans au;have r:=eb hZ3 r;have hnrb:OB vn p:=fun e=>BO (Fe hnr.2 e) (Bu r) (by decide) rfl;have hZ4:=hxk.trans au;have hma:=hma.keep hZ4;have hnra:OB vn na:=fun e=>BO (Fe hnr.2 e) (MapF.tag hma) (by decide) rfl;have m:=m.trans hZ3;have hml:=hml.keep hZ4;refine gS (ZZ MX (ZU (ZQ hnr) rfl) (gL (fun(ρ:Aj) (wz:Ads)=>∃j:Nat,∃vb:Adr,∃F1:Nat->Nat,∃V1:Nat->Adr,ρ 0=(PQ H.g 0:Adr)/\ρ 1=(vf:Adr)/\ρ 3=(PQ p 0:Adr)/\ρ 4=(.func (.func 50) #[] #[PQ p 0]:Adr)/\ρ 5=(.map (some nl):Adr)/\ρ 8=(.map (some na):Adr)/\ρ 14=(.bool (false):Adr)/\ρ 32=(aj:Adr)/\ρ 33=(NI (((vs.take (BK fs (0) (vs.length+1)))).length):Adr)/\ρ 34=(NI i:Adr)/\ρ 45=(vn:Adr)/\ρ 46=(NI ((((AM D fs).map Aet)).length):Adr)/\ρ 47=(NI j:Adr)/\Ext w wz/\Ext w wz/\MapF St (pF H.F) Nm wz nl (lookD (AM D fs))/\OG w.heap.size 9 1 (Gc) wz vn ((AM D fs).map Aet)/\wz.heap[p]? =some (.cells ([vb]).toArray 42 (0,0))/\FAt w.heap.size wz vb (fs.drop (j+1))/\MapF St (pF F1) Nm wz na (lookD (Eh (AM D fs) j))/\FilesAt w.heap.size wz F1 V1 (E6 D fs (AM D fs) j)/\(j<=(AM D fs).length)/\True) (fun ρ _=>(AM D fs).length-(intOf (ρ 47)).toNat) ⟨0,af,(fun _=>0),(fun _=> .slice none 0 0),u,T1,T3,T4,T5,rfl,aq,ak,al,ag,rfl,rfl,rfl,hE,m,hml,hnr,r,hFA,hma,FilesAt.nil _ _,AdN _,trivial⟩ ?_));clear r;clear hFA;clear hvt;clear hma;clear hE m hml hnr;rintro bz co ⟨j,vb,F1,V1,u,T1,T3,T4,T5,T8,aq,ak,al,ag,bc,bd,aw,hE,m,hml,hnr,hbv,hFA,hma,hfi,hj,-⟩;have q47:=aw;have hbfl2:=(bl hbv);have hnal2:=hma.lt;refine gS (ZO (a:=(j:Nat)) (b:=((((AM D fs).map Aet)).length:Nat)) aw bd (Bg _ _ _ _) ?_);refine cD rfl (fun a4=> ?_) fun a4=> ?_
 ·have hlt:j<(AM D fs).length:=by have h:=a4;rw[AeU]at h;exact h
  have hhE:=hE;have hnm:((AM D fs).map Aet).getD j []=((AM D fs).getD j ([],0)).1:=VE hlt;obtain⟨k,hk⟩:∃k,k=((AM D fs).getD j ([],0)).2:=⟨_,rfl⟩;have hmemj:=DS (d:=([],0)) hlt;have hlk:lookD (AM D fs) (((AM D fs).map Aet).getD j [])=some k:=by rw[hnm,hk];exact HU hLs hmemj
  have hkl:k<D.files.length:=hk▸hLok.num _ hmemj;have hmj:Bq (((AM D fs).map Aet).getD j [])=true:=by rw[hnm];exact hLok.may _ hmemj
  have hfa:=t.files.at_ k hkl;have hfb:=hfa.blk;have hfr:RB w (H.V k) (D.files.getD k ([],0)).1:=Z8 hfa.row;have hfl:=hL.files _ (DS (d:=([],0)) hkl);have hsy:=t.ok.syn _ (DS (d:=([],0)) hkl);have cp:(Gc ((((AM D fs).map Aet)).getD (j) ([]:Ai1))).length=1:=(AcL (ZQ hnr) ([]:Ai1) (by omega));refine gS (Z3 MX Vo (by decide) ([]:Ai1) (ZU (ZQ hnr) bc) aw (by omega) fun cq be=>(gS (Aab E4 rfl (PR.cell (Aaa be rfl) rfl) ?_)));clear be;refine gS (AaI Gj EZ (fun _ _=>Eb) OJ Ix T5 rfl hml (B6 hmj).2 hlk ?_);have hfi_j0:=hfi;refine Ev [0,1,2,3,4,5,6,7,8,9,10,11,12,13,14,15,16,17] [15] [1,2] [3] fun bf aa=> ?_;have hFA:FAt w.heap.size bf vb (fs.drop (j+1)):=(hFA.keep aa);have hfi:FilesAt w.heap.size bf F1 V1 (E6 D fs (AM D fs) j):=(hfi.keep aa);have hE:=hE.trans aa;refine Ew hE ?_;refine yp (AcA rfl zz) (yp (Acy PO rfl zz) (yf (fun _ ⟨hE,_⟩=>ZN Oa rfl rfl (Ac (eb hE hfb) rfl) zz) (ys (AcA rfl zz) (ys (Acy PM rfl zz) (ys (ZN Hv rfl rfl (Ac (eb hE hfb) rfl) zz) (ys (Aae Hv (Aaf (hfr.keep hE) rfl) zz) (ys (AcA rfl zz) (ys (Acy PO rfl zz) (ys (ZN Oa rfl rfl (Ac (eb hE hfb) rfl) zz) (ys (ZV (xv:=NI (((D.files.getD k ([],0)).1:Ai1).length)) (yv:=NI ((D.files.getD k ([],0)).2)) rfl rfl rfl (FE _ _ _ (by omega) (by omega)) zz) ?_))))))))));have hbv:=eb aa hbv;have htb:=Bu hbv;refine yI (Aaj OT (caps:= #[PQ p 0]) T4 #[NI ((((D.files.getD k ([],0)).1:Ai1).length)-((D.files.getD k ([],0)).2)),PQ p 0] (by simp only[AdH,AdK,AdO,Aei,Ad1,Ad9];exact congrArg Ad2 (Cj rfl rfl)) ((OS _ w.heap.size p hbfw vb fs (j+1) hbv hFA ((((D.files.getD k ([],0)).1:Ai1).length)-((D.files.getD k ([],0)).2)) (by omega)).mono ?_));rintro e bg ⟨bh,rfl,bi,hF70,ai⟩;refine⟨_,rfl,?_⟩;have hml:=hml.keep aa;have hml:=AcR hml ai (CI (by omega));have hma:=hma.keep aa;have hma:=AcR hma ai (CI (by omega));have hfi:FilesAt w.heap.size bg F1 V1 (E6 D fs (AM D fs) j):=FilesAt.setT hfi ai htb (by decide) (by decide);clear hbv;clear hFA;have hbv:=bi;clear bi;have hFA:=hF70;clear hF70;have cr:=bl hbv;have hE:=Ad hE ai (Adu (Adw _) (by omega));refine⟨⟨hE,trivial⟩,?_⟩;refine ys (ZV (xv:=NI ((D.files.getD k ([],0)).2)) (yv:=NI (BK fs (j+1) ((((D.files.getD k ([],0)).1:Ai1).length)-((D.files.getD k ([],0)).2)+1))) rfl rfl rfl (AF _ _ _ (by have h:=(GS t.ok fs j k).2;change (Fv D fs j k).2<=(D.files.getD k ([],0)).1.length at h;show(Fv D fs j k).2<_;omega)) zz) ?_;have hcut:=GS t.ok fs j k;refine gS (AcA rfl (gS (Acy PM rfl (gS (ZN Hv rfl rfl (Ac (eb hE hfb) rfl) (gS (AbS (xs:=(D.files.getD k ([],0)).1) (n:=((D.files.getD k ([],0)).2)+((BK fs (j+1) ((((D.files.getD k ([],0)).1:Ai1).length)-((D.files.getD k ([],0)).2)+1)))) Hv QN rfl (hfr.keep hE) rfl (by exact(GS t.ok fs j k).2) fun b0 b1 ha77=> ?_)))))));have hfi_c:=hfi;refine gS (ZP Vy rfl ((M1 _ b0 (((D.files.getD k ([],0)).1:Ai1).take (((D.files.getD k ([],0)).2)+((BK fs (j+1) ((((D.files.getD k ([],0)).1:Ai1).length)-((D.files.getD k ([],0)).2)+1))))) b1 (by simp only[AdS];omega)).mono ?_));rintro e cs ⟨ab,rfl,ac⟩;refine⟨_,rfl,?_⟩;have ad:=Acz bg;have m:=m.trans aa;have m:=Ad m ai (Adu (Adw _) (by omega));have ct:=hE.size;have cu:=m.size;have hnr:=hnr.keep aa;have hnr:=AcC hnr ai hnrb;have am:=ac.own;obtain⟨ao_,n_,c_,hsl_⟩:∃ao n c,ab = .slice ao n c:=RB.slice (Z8 am);refine gS (AaC (v:= .agg ([ab,NI (((D.files.getD k ([],0)).2)+((BK fs (j+1) ((((D.files.getD k ([],0)).1:Ai1).length)-((D.files.getD k ([],0)).2)+1))))]:List Adr).toArray) (vr ab rfl) (vr (NI (((D.files.getD k ([],0)).2)+((BK fs (j+1) ((((D.files.getD k ([],0)).1:Ai1).length)-((D.files.getD k ([],0)).2)+1))))) rfl) (fun w=>by rw[hsl_];exact YH _ _ _ _ w) ?_);have hE:=hE.trans ac.ext;have hzb:=hE.size;have ad:=ad.trans ac.ext;have hfi_j:=(hfi.keep ad);refine gS (AcP (vr (.agg ([ab,NI (((D.files.getD k ([],0)).2)+((BK fs (j+1) ((((D.files.getD k ([],0)).1:Ai1).length)-((D.files.getD k ([],0)).2)+1))))]:List Adr).toArray) rfl) fun s bj a5 bk ae cv=> ?_);have m:=m.trans ac.ext;have cw:=hE.size;have cx:=m.size;have cy:=ad.size;have hml:=hml.keep ac.ext;have cz:=AO hml.lt a5;have hma:=hma.keep ac.ext;have c0:=AO hma.lt a5;have b2:=bk;clear bk;have c1:s<bj.heap.size:=by omega
  have hgfw:w.heap.size<=s:=by omega
  have hma:=hma.keep ae;have hmc:=MapF.congr (ev' :=pF (Bn F1 j s)) hma (fun a y hy=>by show PQ (Bn _ _ _ _) 0=_;rw[BF _ _ (Xu hy)]);have htm:=MapF.tag hmc;have am:=AcU _ _ _ _ _ _ _ _ am ae;have ad:=ad.trans ae;have hfi2:FilesAt w.heap.size bj (Bn F1 j s) (Bn V1 j ab) (E6 D fs (AM D fs) (j+1)):=by
   have hl:=VC D fs (AM D fs) hj;have h:=Aby (hfi.keep ad) (f:=s) (v:=ab) (x:=Fv D fs j ((AM D fs).getD j ([],0)).2) ⟨by rw[<-hk];exact b2,by rw[<-hk];exact AN am (by omega),hgfw⟩ (fun q hq e=>by have:=(bl (hfi_j.at_ q hq).blk);rw[e]at this;exact absurd this (by omega)) (fun q hq i hi e=>by have h1:=((hfi_c.at_ q hq).row.lt i hi).2;have h2:=(World.ownsRow.lt am i e).1;omega);rw[hl]at h;rw[TP hlt];exact h
  refine gS (Abd (ev:=pF (Bn F1 j s)) (c:=j) Gj EZ OJ T8 (vr (St ((((AM D fs).map Aet)).getD (j) ([]:Ai1))) rfl) (Eq.trans ((vr (PQ s 0) rfl)) (by show _=PQ (Bn F1 j s j) 0;rw[BV])) hmc (B6 hmj).2 fun bm hM113 ah c2=> ?_);have hfi:=hfi2;have hml:=hml.keep ae;have hml:=AcR hml ah (CI (by omega));have hfi:FilesAt w.heap.size bm (Bn F1 j s) (Bn V1 j ab) (E6 D fs (AM D fs) (j+1)):=FilesAt.setT hfi ah htm (by decide) (by decide);have hFA:=hFA.keep ad;have hFA:FAt w.heap.size bm bh (fs.drop (j+1+1)):=FAt.set hFA ah (by omega);clear hma;have hma:=hM113;rw[hnm,VD hLs hlt]at hma;have hnr:=hnr.keep ac.ext;have hnr:=hnr.keep ae;have hnr:=AcC hnr ah hnra;have hbv:=eb ac.ext hbv;have c3:=AO (bl hbv) a5;have hbv:=eb ae hbv;have hbv:=kb ah hbv (by omega);have hE:=hE.trans ae;have hE:=Ad hE ah (Adu (Adw _) (by omega));have m:=m.trans ae;have m:=Ad m ah (Adu (Adw _) (by omega));refine gS (ZV (xv:=NI j) (yv:=NI 1) aw rfl rfl (AF _ _ _ (by omega)) (gK (And.intro ⟨j+1,bh,(Bn F1 j s),(Bn V1 j ab),u,T1,T3,T4,T5,T8,aq,ak,al,ag,bc,bd,rfl,hE,m,hml,hnr,hbv,hFA,hma,hfi,by omega,trivial⟩ ?_)));show(AM D fs).length-(intOf (NI ((j)+(1)))).toNat<(AM D fs).length-(intOf (bz 47)).toNat;rw[q47];simp only[intOf,AdV];omega
 have hje:j=(AM D fs).length:=by have h:=a4;rw[AeU]at h;omega
 rw[hje]at hma hfi;have o:=(eb hE hb);have hgl17:=(bl o);have c4:=hE.size;have hnal17:=MapF.lt hma;refine gS (ZP Vt T8 ((Jw _ hma).mono ?_));rintro e z ⟨nb,rfl,hnbl,hmb17,an⟩;refine⟨_,rfl,?_⟩;have hFA:FAt w.heap.size z vb (fs.drop (j+1)):=(hFA.keep an);have hfi:FilesAt w.heap.size z F1 V1 (E6 D fs (AM D fs) (AM D fs).length):=(hfi.keep an);have hfi17:=hfi;have hma:=hma.keep an;have hma17:=hma;have hE:=hE.trans an;have hhE17:=hE;have o:=eb an o;have htd17:=Bu o;have hnbw:w.heap.size<=nb:=by omega
 have hnabn:na≠nb:=by omega
 have hgnb:H.g≠nb:=by omega
 have hC2:Chg (fun i=>i=H.g) z z:=Adc _ _;refine gS (AcA u (gS (Acy Rv rfl (gS (ZS (i:=1) (v:= .map (some na)) rfl T8 o (AdD rfl) TJ rfl rfl fun b3 bn b4 c5=> ?_)))));clear m;clear hnr;have hC2:Chg (fun i=>i=H.g) z b3:=Ac0 hC2 b4 (.inl rfl);clear o;have o:=bn;clear bn;have c6:=bl o;refine gS (AcA u (gS (Acy RA rfl (gS (ZS (i:=2) (v:= .map (some nb)) rfl rfl o (AdD rfl) TJ rfl rfl fun b5 bo b6 c7=> ?_)))));have hC2:Chg (fun i=>i=H.g) z b5:=Ac0 hC2 b6 (.inl rfl);clear o;have o:=bo;clear bo;have c8:=bl o;refine gS (AcA u (gS (Acy LG rfl (gS (ZS (i:=3) (v:=(AdI none 0 0)) rfl rfl o (AdD rfl) TH rfl rfl fun b7 bp b8 c9=> ?_)))));have hC2:Chg (fun i=>i=H.g) z b7:=Ac0 hC2 b8 (.inl rfl);clear o;have o:=bp;clear bp;have da:=bl o;refine gS (AcA u (gS (Acy Dh rfl (gS (ZS (i:=5) (v:=NI 0) rfl rfl o (AdD rfl) DR rfl rfl fun b9 bq ca db=> ?_)))));have hC2:Chg (fun i=>i=H.g) z b9:=Ac0 hC2 ca (.inl rfl);clear o;have o:=bq;clear bq;have dc:=bl o;refine gS (AcA u (gS (Acy Ru rfl (gS (ZS (i:=6) (v:= .bool (false)) rfl rfl o (AdD rfl) Vu rfl rfl fun cb br cc dd=> ?_)))));have hC2:Chg (fun i=>i=H.g) z cb:=Ac0 hC2 cc (.inl rfl);clear o;have o:=br;clear br;have de:=bl o;refine Gm rfl ?_;have hCt:=(Ac5 hhE17:Chg (fun i=>i=H.g) w _).trans hC2 (fun i e=> .inl e);have hTf:=t.crashed (l:=fs) bs.size hCt o (hma17.chg hC2 (fun e=>hnag e)) (hmb17.chg hC2 (fun e=>hgnb e.symm)) hnabn hnaw hnbw (hfi17.chg hC2 (fun k hk=>⟨fun e=>BO (Bu (hfi17.at_ k hk).blk) htd17 (by decide) e,fun i hi e=>BO (Fe (hfi17.at_ k hk).row hi) htd17 (by decide) e⟩));exact⟨_,rfl,hTf⟩
structure DBd (n : Nat) (D : Ak) : Prop where
 quota:D.quota<=1073741824
 refused:D.refused<=n
 arm:D.arm<=9223372036854775807
 acts:D.kept.length+D.acts.length<=n
 now:D.now.length<=n
 files:∀x∈D.files,x.1.length<=300*n
theorem DBd.file{n:Nat}{D:Ak}(h:DBd n D)(k:Nat):(Ar D k).1.length<=300*n:=by
 by_cases hk:k<D.files.length
 ·exact h.files _ (MV hk)
 ·unfold Ar;rw[Adz,AeX (by omega)];exact AdN _
theorem RH{l:List Nat}{m:Nat}(h:∀x∈l,x<=m):l.sum<=l.length*m:=by
 induction l with
 | nil=>simp
 | cons a r ih=>
  have h1:=h a AeG;have h2:=ih fun x hx=>h x (AeF _ hx);rw[List.sum_cons,AdJ,Nat.succ_mul];omega
theorem DBd.used{n:Nat}{D:Ak}(h:DBd n D):usedD D<=n*(300*n):=by
 unfold usedD;have h1:=RH (l:=D.now.map fun e=>(Ar D e.2).1.length) (m:=300*n) fun x hx=>by
  obtain⟨e,_,rfl⟩:=Aeq.1 hx;exact h.file e.2
 rw[AeU]at h1;exact Adu h1 (Nat.mul_le_mul_right _ h.now)
theorem DBd.lt{n:Nat}{D:Ak}(h:DBd n D)(hn:n<=100000):EV D:=by
 have h1:=h.used;have h2:n*(300*n)<=100000*(300*100000):=Nat.mul_le_mul hn (AgC _ hn);have h3:=h.acts;have h4:=h.now;have h5:=h.refused;have h6:=h.arm;exact⟨h.quota,by omega,by omega,by omega,by omega,by omega,by omega,fun x hx=>by have:=h.files x hx;omega⟩
theorem DBd.mono{n m:Nat}{D:Ak}(h:DBd n D)(hn:n<=m):DBd m D:=
 ⟨h.quota,Adu h.refused hn,h.arm,Adu h.acts hn,Adu h.now hn,fun x hx=>Adu (h.files x hx) (AgC _ hn)⟩
theorem DBd.new{q:Nat}(hq:q<=1073741824):DBd 0 (C4 q):=⟨hq,Adw _,AdN _,Adw _,Adw _,fun x h=>by cases h⟩
theorem DBd.armed{n:Nat}{D:Ak}(h:DBd n D):DBd n (Cd D).1:=by
 unfold Cd;split
 ·exact h
 ·have:=h.arm;exact⟨h.quota,h.refused,by show D.arm-1<=_;omega,h.acts,h.now,h.files⟩
theorem DBd.turned{n:Nat}{D:Ak}(h:DBd n D)(a:B5):DBd (n+1) (turnedD D a):=by
 have h1:=OF D.now a;have h2:=h.acts;have h3:=h.now;refine⟨h.quota,Ahu h.refused,h.arm,?_,?_,fun x hx=>Adu (h.files x hx) (AgC _ (Ahd n))⟩
 ·show D.kept.length+(D.acts++ [a]).length<=n+1;rw[Adx,Ad4];omega
 ·show(turnD D.now a).length<=n+1;omega
theorem DBd.did{n:Nat}{D:Ak}(h:DBd n D){f:Ak->Ak}(hf:∀E,DBd n E->DBd (n+1) (f E)):DBd (n+1) (DA D f).1:=by
 unfold DA;split
 ·exact h.armed.mono (Ahd n)
 ·exact hf _ h.armed
theorem DBd.sync{n:Nat}{D:Ak}(h:DBd n D)(s:Ai1):DBd (n+1) (Ce D s).1:=by
 unfold Ce;split
 ·exact h.mono (Ahd n)
 ·rename_i k _
  refine h.did fun E hE=>⟨hE.quota,Ahu hE.refused,hE.arm,?_,Ahu hE.now,fun x hx=> ?_⟩
  ·have:=hE.now;show E.now.length+0<=_;omega
  ·rcases AfX hx with hx | rfl
   ·have:=hE.files x hx;omega
   ·have:=hE.file k;show(Ar E k).1.length<=_;omega
theorem DBd.move{n:Nat}{D:Ak}(h:DBd n D)(s t:Ai1):DBd (n+1) (Df D s t).1:=by
 unfold Df;split
 ·exact h.mono (Ahd n)
 ·exact h.did fun E hE=>hE.turned _
theorem DBd.drop{n:Nat}{D:Ak}(h:DBd n D)(s:Ai1):DBd (n+1) (Bt D s).1:=by
 unfold Bt;split
 ·exact h.mono (Ahd n)
 ·exact h.did fun E hE=>hE.turned _
theorem DBd.crash{n:Nat}{D:Ak}(h:DBd n D)(l:List Int):DBd n (A8 D l):=by
 have h1:=OR D l;have h2:=h.acts;have h3:(Dg (AM D l)).length=(AM D l).length:=by unfold Dg;rw[AgI]
 refine⟨h.quota,h.refused,AdN _,?_,?_,fun x hx=> ?_⟩
 ·show(Dg (AM D l)).length+0<=n;omega
 ·show(Dg (AM D l)).length<=n;omega
 ·obtain⟨i,hi,rfl⟩:=AgF.1 hx;have h4:=h.file ((AM D l)[i]'hi).2;unfold Fv;simp only[AdS];omega
section
variable {base : Nat} {w w' wb : Ads} {g : Nat} {H H' : Dk} {D D' : Ak}
theorem DkS.low(h:DkS base w H D){b' :Nat}(hb:b' <=base):DkS b' w H D:=by
 obtain⟨vs,hv⟩:=h.acts;exact⟨h.blk,h.now,h.kept,h.ne,⟨vs,AN hv.row hb,hv.len,hv.at_⟩,h.files.low hb,h.ok,⟨Adu hb h.lo.1,Adu hb h.lo.2.1,Adu hb h.lo.2.2⟩⟩
structure DkG (wb w : Ads) (g : Nat) (H : Dk) (D : Ak) : Prop where
 ext:Ext wb w
 st:DkS wb.heap.size w H D
 hg:H.g=g
theorem DkG.keep(h:DkG wb w g H D)(k:Ext w w'):DkG wb w' g H D:=⟨h.ext.trans k,h.st.keep k,h.hg⟩
theorem DkG.step(h:DkG wb w g H D)(k:DkT wb.heap.size w H D w' H' D'):DkG wb w' g H' D' :=⟨k.chg.ext h.ext (fun i q=>(h.st.foot q).2.2),k.st,k.g.trans h.hg⟩
theorem DkG.box(h:DkG wb w g H D)(hc:Chg (B7 H D.files.length) w w'){b:Nat}{cs:Array Adr}{t:Ady}{fr:Nat × Nat}(hb:w.heap[b]? =some (.cells cs t fr))(h1:t≠82)(h2:t≠120)(h3:t≠5)(h4:t≠113):w'.heap[b]? =some (.cells cs t fr):=
 (hc.blk b (bl hb) (h.st.offT hb h1 h2 h3 h4)).trans hb
abbrev AcJ:=@DkG.box
theorem DkG.read(h:DkG wb w g H D)(s:Ai1)(hL:EV D):
  Calls Adt 30 #[PQ g 0,St s] w fun e w' =>∃v,e = .returned (.tuple #[v,NI (Bo D s).2])/\w'.ownsRow w.heap.size 5 1 v (Bo D s).1.length (Lib.byteCells (Bo D s).1)/\Ext w w' :=by
 rw[<-h.hg];exact Xq wb w H D h.st s hL
theorem DkG.down(h:DkG wb w g H D):
  Calls Adt 20 #[PQ g 0] w fun e w' =>e = .returned (.bool D.down)/\Ext w w' :=by
 rw[<-h.hg];exact Vz _ w H D h.st
theorem WM(wb w:Ads)(hE:Ext wb w)(q:Nat)(hq:q<=1073741824):
  Calls Adt 9 #[NI q] w fun e w' =>∃g H,e = .returned (PQ g 0)/\DkG wb w' g H (C4 q)/\Ext w w' :=
 (YE w q hq).mono fun e w' ⟨H,he,hS,hx⟩=>⟨H.g,H,he,⟨hE.trans hx,hS.low hE.size,rfl⟩,hx⟩
end
theorem DkG.og{wb w w' :Ads}{g:Nat}{H:Dk}{D:Ak}(h:DkG wb w g H D)(hc:Chg (B7 H D.files.length) w w'){α:Type}{b k:Nat}{t:Ady}{enc:α->List Adr}{v:Adr}{l:List α}(hr:OG b t k enc w v l)(h1:t≠82)(h2:t≠120)(h3:t≠5)(h4:t≠113):OG b t k enc w' v l:=by
 refine⟨hr.1,Dl hc hr.2 fun i hi q=> ?_⟩;have ht:=Fe hr.2 hi;rcases(h.st.foot q).1 with ⟨es,c,e⟩ | ⟨cs,t',fr,e,ht'⟩
 ·unfold CV at ht;rw[e]at ht;cases ht
 ·have:=Bu e;rw[this]at ht;have ht:t' =t:=by simpa using ht
  subst ht;rcases ht' with q | q | q | q
  ·exact h1 q
  ·exact h2 q
  ·exact h3 q
  ·exact h4 q
def InjD(l:Bh):Prop:=l.Pairwise fun a b=>a.2≠b.2
theorem InjD.eq{l:Bh}(h:InjD l){e f:Ai1 × Nat}(he:e∈l)(hf:f∈l)(q:e.2=f.2):e=f:=by
 obtain⟨i,hi,rfl⟩:=AeB.1 he;obtain⟨j,hj,rfl⟩:=AeB.1 hf;rcases Nat.lt_trichotomy i j with hij | rfl | hij
 ·exact absurd q (Afy.1 h i j hi hj hij)
 ·rfl
 ·exact absurd q.symm (Afy.1 h j i hj hi hij)
theorem InjD.wo{l:Bh}(h:InjD l)(s:Ai1):InjD (HT l s):=Aih AiB h
theorem InjD.ins{l:Bh}(h:InjD l)(s:Ai1){k:Nat}(hk:∀e∈l,e.2≠k):InjD (GQ l s k):=by
 unfold GQ InjD;rw[Agv];refine⟨h.sublist (Agi _),AfM.2 ⟨fun e he=>(hk e ((Agj _).subset he)).symm,h.sublist (Agj _)⟩,fun a ha b hb=> ?_⟩;rcases Ad5.1 hb with rfl | hb
 ·exact hk a ((Agi _).subset ha)
 ·have h2:(l.takeWhile (fun e=>Ad3 e.1 s)++l.dropWhile (fun e=>Ad3 e.1 s)).Pairwise fun a b=>a.2≠b.2:=by rw[Af6];exact h
  exact(Agv.1 h2).2.2 a ha b hb
theorem InjD.turn{l:Bh}(h:InjD l)(a:B5)(hk:a.to.length≠0->∀e∈l,e.2=a.file->e.1=a.frm):InjD (turnD l a):=by
 unfold turnD;split
 ·exact h.wo _
 ·rename_i hn
  refine((h.wo _).wo _).ins _ fun e he q=> ?_;have h1:=Jt he;have h2:=hk hn e (Jt h1) q;have h3:=(List.mem_filter.1 h1).2;simp[h2]at h3
theorem InjD.num(l:Bh):InjD (Dg l):=by
 unfold InjD Dg;rw[Afy];intro i j hi hj hij;rw[AiE,AiE];exact Nat.ne_of_lt hij
theorem InjD.add{D:Ak}(h:InjD D.now)(hok:DOk D)(s b:Ai1):InjD (Bj D s b).now:=by
 unfold Bj;split
 ·exact h
 ·exact h.turn _ fun _ e he q=>absurd (hok.now.num e he) (by rw[q];exact Ahm _)
theorem Jx{D:Ak}{s t:Ai1}(hd:D.down=false)(hs:Bq s=true)(ht:Bq t=true):CU D s t=0:=by
 unfold CU;rw[if_neg (by rw[hd];decide),if_pos ⟨hs,ht⟩]
theorem Hn{l:List (Ai1 × Nat)}{k:Nat}{x:Ai1 × Nat}(h:k<l.length):(l.set k x).getD k ([],0)=x:=by
 rw[Adz,Aic h];rfl
theorem Kq{l:List (Ai1 × Nat)}{k j:Nat}{x:Ai1 × Nat}(h:k≠j):(l.set k x).getD j ([],0)=l.getD j ([],0):=by
 rw[Adz,Aiq h,<-Adz]
theorem Qr(D:Ak)(s b:Ai1):(Bj D s b).arm=D.arm/\(Bj D s b).down=D.down:=by
 unfold Bj;split <;> exact⟨rfl,rfl⟩
end Go.Proofs.YtbbbblinjomajaaGreatDoor
