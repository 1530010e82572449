/- Part 1 of what stands behind these statements: laws and walks of the functions that are reached. Conditions: those that each theorem names. -/
import Derived.WalkKit
import Derived.WalkLawsBesides
import Derived.WalkSpells
import Derived.Deep.AppendSrc
import Derived.Lib.Hide
import Derived.Lib.VarintMem
import Derived.ProofKit
import Derived.OpenShut
import Derived.ShutString
import Derived.JoinedCond
import Derived.Orders
import Derived.Below
import Derived.Laws.IdiomStrings
import Derived.Deep.MidRow
import Derived.Scope
import Derived.Laws.Rows
import Derived.Laws.StructEq
import Derived.Lib.EndianBits
import Derived.Recover
import Derived.Lib.Walk
import Derived.Lib.Varint
import Derived.DeepKeys4
import Derived.MapKept
import Derived.WideKeyEntry
import Derived.Lib.Bytealg
import Derived.Laws.Externs
import Derived.Lib.ConvBytes
import Derived.Lib.AtoiErrMem
import Derived.Defers
import Derived.Sort.Walk0
import Derived.Maps.Own
import Derived.Maps.OwnSet
import Derived.Maps.Range
import Derived.Sort.KeysCollected
import Derived.Laws.IdiomRangeMap
import Derived.Shelf.SlMaps.Clone
import Derived.Shelf.SlIter.Nil
import Derived.Shelf.SortM.Plain
import Derived.Shelf.SortM.SortNone
import Derived.Laws.Small
import Derived.Lib.Builder
import Derived.Shelf.Strings.Builder1
import Derived.Lib.AppendZerosOnto
import Derived.Lib.Overlaps
import Derived.Shelf.Small.Strs
import Derived.Deep.DeepHandedRow
import Derived.Lib.LaidTab
import Derived.Stop.LaidErr
import Derived.Deep.Slices
import Derived.Test.YtfpekahfdalfkaaGreatDoorRows
import Derived.Test.YtfpekahfdalfkaaGreatDoorProg
set_option linter.unusedVariables false
set_option linter.unusedSimpArgs false
namespace Go.Proofs.YtfpekahfdalfkaaGreatDoor
open _root_.Go renaming Value->AbI,World->AbJ,Program->Acg,TypeId->AbQ,Oper->Aca,Exit->Aet,Operand->AbV,Result->AgG,Edge->AcI,FuncId->AdB,binOp->Acm,IntKind->AcK
open _root_.Go.Lib renaming byteCells->AbK,byteCells_append->AfV,byteCells_length->AbZ
open _root_.Array renaming getElem?_eq_some_iff->Ace,length_toList->AdK,getElem?_eq_none->AeR,getElem?_setIfInBounds_ne->AeG,getD_eq_getD_getElem?->AcC,toList_setIfInBounds->Aen,replicate->Adx,getElem?_replicate->Adg,size_replicate->AfW,getElem?_modify->Ahe
open _root_.Option.some renaming inj->Acu,injEq->Adw
open _root_.Nat renaming le_trans->AbM,add_mul->Aee,mul_le_mul_right->Ae5,le_refl->AbO,strongRecOn->Aek,zero_add->Ac2,min->AeI,beq->Aea,blt->AdY,le_of_ble_eq_true->Ab2,mod_eq_of_lt->Ac5,min_eq_left->AeO,shiftLeft_eq->AgI,lt_of_le_of_lt->Afr,ble->Agb
open _root_.Go.World renaming grownBy_alloc->AhA,block_lt_of_cell?->Ada,cell?_spot->AeA,cell?->Ad6,freeze->AgM
open _root_.Go.RowKit.Below renaming refl->AcB,grown->Afh
open _root_.Go.Builtin renaming append_->AeJ,len_->AgK
open _root_.List renaming length_append->AbP,size_toArray->Ab4,take_left->Ad4,eq_nil_of_length_eq_zero->Acv,length_take->Ab5,length_drop->Ab6,map_toArray->Acp,map_cons->Aco,map_nil->Acz,foldl_cons->AeK,getElem?_eq_some_iff->Acf,getD->Agj,getElem?_eq_none->AcR,all_eq_true->Acx,mem_zipIdx_iff_getElem?->Aga,range->AcZ,getElem?_eq_getElem->AbT,mem_append_right->AdL,mem_append_left->Aeu,getElem?_toArray->AcN,getElem?_cons_succ->Adl,mem_eraseDups->Afn,mem_filterMap->Aef,mem_of_getElem?->AcV,mem_range->Afz,getD_eq_getElem?_getD->AbN,map_take->Agn,getElem?_take->AdP,drop_of_length_le->AcU,map_drop->Ahv,map_set->AgL,mem_cons->Acy,mem_cons_of_mem->AcW,range'->Agh,getElem?_cons_zero->Ad8,nodup_cons->AdX,contains_iff_mem->AdM,nil_append->AcO,cons_append->AcM,nodup_append->AdU,mem_append->Acb,mem_singleton->AbW,append_of_mem->Aej
open _root_.Go.Value renaming ownBlock->AbS,cells->Aff,int->Adm
open _root_.Go.Addr renaming add_lit->Ade,add->AdO
open _root_.Go.Oper renaming wp->Aex,upon->AeL
open _root_.Go.Sem renaming run_bind->AbY,run_pure->Ab1
open _root_.Go.Result renaming andThen_ok->AbU,andThen->AcF,ok->AgZ
open _root_.Go.Region renaming binds->Adb,wanted->Ac8,ready->Adf
open _root_.Bool renaming or_eq_true->Ad7,and_eq_true->AcQ,false_eq_true->Aeg,eq_iff_iff->Ael,not_eq_true->AfN
open _root_.Option renaming bind_some->Ad1,map_some->Ac3,map_none->AdE
open _root_.Classical renaming byContradiction->AdA
open _root_.Go.Code renaming region->AfI
open _root_.Go.Instr renaming storeAt->Aeo,sureAddr->Ad9,sliceAt->Afd,loadAt->AhN,buildSlice->Acq
open _root_.Go.Calls renaming mono->AeN
open _root_.Go.IntKind renaming wrap->Afo,bits->Ac4,signed->Aeb
open _root_.BitVec renaming ofInt_natCast->Ae6,isLt->Aha,ofNat->AdQ,toNat_ofNat->Aei
open _root_.Go.Op renaming intArith->Afg,intBits->AfA,shift->AgH,equal->Afq,equalIn->Aho,intCmp->Aeh
open _root_.Int renaming toNat_natCast->Ab0,fdiv_eq_ediv_of_nonneg->Aep,natCast_nonneg->AeP,natCast_mul->Ag0
abbrev Ah5:=List UInt8
open Go.RowKit
/-! Short names for what stands in the walks again and again. -/
abbrev PQ(b o:Nat):AbI:= .pointer (some ⟨b,o,none⟩)
abbrev St(l:Ah5):AbI:= .string ⟨l.toArray⟩
abbrev AB(l:Ah5):AbI:= .agg (AbK l).toArray
abbrev OB(v:AbI)(g:Nat):Prop:=v.ownBlock≠some g
theorem AH{x v:AbI}(h:x=v):x=v:=h
theorem As{a b n:Nat}(h:a<b)(e:b=n):a<n:=e▸h
theorem vr{x:AbI}(y:AbI)(h:x=y):x=y:=h
theorem bl{α:Type}{xs:Array α}{i:Nat}{o:α}(h:xs[i]? =some o):i<xs.size:=(Ace.1 h).1
theorem kb{w w' :AbJ}{g n:Nat}{o:Obj}(hg:w.grownBy w' (some g))(hb:w.heap[n]? =some o)(h:n≠g):w'.heap[n]? =some o:=(hg.block n (bl hb) (fun e=>h (Acu e))).trans hb

structure Grew (w w' : AbJ) (v v' : AbI) : Prop where
 by_:w.grownBy w' v.ownBlock
 fresh:∀k,v'.ownBlock=some k->v.ownBlock=some k\/w.heap.size<=k
theorem Ak{w w1 w2:AbJ}{r r1:Option Nat}(h:w.grownBy w1 r)(k:w1.grownBy w2 r1)(hr:∀b,r1=some b->r=some b\/w.heap.size<=b):w.grownBy w2 r:=by
 refine⟨k.os.trans h.os,k.tape.trans h.tape,k.output.trans h.output,AbM h.size k.size,fun i hi hne=> ?_⟩;have h1:=h.size;rw[k.block i (by omega) (fun e=>(hr i e.symm).elim (fun h2=>hne h2.symm) (fun h2=>by omega)),h.block i hi hne]
theorem Grew.eqv{w w' :AbJ}{x v v' :AbI}(e:x=v)(h:Grew w w' x v'):Grew w w' v v' :=e▸h
theorem Grew.refl(w:AbJ)(v:AbI):Grew w w v v:=⟨World.grownBy.refl _ _,fun _ h=> .inl h⟩
abbrev AbF:=@Grew.refl
theorem Grew.trans{w w1 w2:AbJ}{v a c:AbI}(h:Grew w w1 v a)(k:Grew w1 w2 a c):Grew w w2 v c:=
 ⟨Ak h.by_ k.by_ h.fresh,fun b hb=>by
  have h1:=h.by_.size;rcases k.fresh b hb with h2 | h2
  ·exact h.fresh b h2
  ·exact .inr (by omega)⟩
theorem Grew.alloc{w w1:AbJ}{v a:AbI}(h:Grew w w1 v a)(o:Obj):Grew w (w1.alloc o) v a:=
 ⟨Ak h.by_ (AhA _ o none) (fun _ e=>by cases e),h.fresh⟩
theorem Grew.drew{w w1:AbJ}{v a:AbI}(h:Grew w w1 v a):Grew w w1.drew v a:=
 ⟨⟨h.by_.os,h.by_.tape,h.by_.output,h.by_.size,h.by_.block⟩,h.fresh⟩
theorem Grew.below{B:Nat}{w w1:AbJ}{v a:AbI}(h:Grew w w1 v a)(hB:B<=w.heap.size)(hv:∀k,v.ownBlock=some k->B<=k):Below B w w1:=
 (AcB B w).grown h.by_ hB hv
section
variable {P : Acg} (w : AbJ)
theorem E7(base:Nat)(t tx ty e:AbQ)(i:TypeInfo)(z:AbI)(size bytes:Nat)(ht:P.underlying t=some (.slice e))(hi:P.info? e=some i)(hz:i.zero=some z) 
  (hsize:i.size=size) (hby:i.bytes=bytes) (hzs:z.cells.size=size)
  (v:AbI) (n:Nat) (xs:List AbI) (hown:w.ownsRow base e size v n xs)
  (x:AbI) (m:Nat) (news:List AbI) (hs:Src P size tx x m news w)
  (h63:n+m<=maxLen) (hbytes:(n+m)*bytes<=140737488355328) (hbase:base<=w.heap.size):
  ∃v' w',(AeJ #[t,tx] ty #[v,x]).run P w = .ok v' w' /\w'.ownsRow base e size v' (n+m) (xs++news)/\Grew w w' v v' :=by
 subst hsize;subst hby
 have hsmall:n+m<=9223372036854775807:=by simp only[maxLen]at h63;omega
 have hl:=hs.newsLen;have hlen:(xs++news).length=(n+m)*i.size:=by rw[AbP,hown.1,hl,Aee]
 have grown:∀(old:Nat),old<n+m ->
   (w.drew.alloc (.cells ((xs++news).toArray++Builtin.zeroCells z.cells (grownCap w (n+m) old e-(n+m))) e)).ownsRow base e i.size
    (.slice (some ⟨w.heap.size,0,none⟩) (n+m) (grownCap w (n+m) old e)) (n+m) (xs++news) /\
   Grew w (w.drew.alloc (.cells ((xs++news).toArray++Builtin.zeroCells z.cells (grownCap w (n+m) old e-(n+m))) e)) v (.slice (some ⟨w.heap.size,0,none⟩) (n+m) (grownCap w (n+m) old e)):=by
  intro old ho;have hge:=grownCap_ge w (n+m) old e;have hcm:grownCap w (n+m) old e<=maxLen:=grownCap_le_maxLen w (n+m) old e h63;refine⟨⟨hlen, .inr ⟨w.heap.size,_,_,rfl,hbase,heap_alloc_new w.drew _,hge,hcm,?_,?_⟩⟩,⟨⟨rfl,rfl,rfl,by simp,fun _ hk _=>heap_alloc_old w.drew _ hk⟩,?_⟩⟩
  ·simp only[Array.size_append,Ab4,size_zeroCells,hzs,hlen,<-Aee]
   congr 1
   omega
  ·simp only[Array.toList_append];rw[<-hlen];exact Ad4
  ·intro k hk;simp[AbS]at hk;exact .inr (by omega)
 rcases hown.2 with ⟨rfl,rfl⟩ | ⟨g,cap,cur,rfl,hbg,hg,hnc,hcm,hcs,htake⟩
 ·have hx:xs= []:=Acv (by simpa using hown.1);subst hx;by_cases hm:m=0
  ·subst hm;have hn:news= []:=Acv (by simpa using hl);subst hn;refine⟨.slice none 0 0,w,?_,World.ownsRow_nil w base e i.size,AbF _ _⟩;have hc:=hs.cells;have hle:=hs.len;rcases hs.kind with ⟨e',hk⟩ | hk <;> simp[AeJ,run_underlying ht,run_underlying hk,sizeOf,typeInfo,hi,hle,hc]
  ·have hgr:=grown 0 (by omega);have hr:=run_append_grow_src (P:=P) w t tx ty e i z ht hi hz none 0 0 [] (run_firstCells_none w.drew i.size 0 0 0) x m news hs (by omega) (by omega)
    (growslice_fits (by omega) hbytes)
   exact⟨_,_,hr,hgr.1,hgr.2⟩
 ·by_cases hroom:n+m<=cap
  ·have hfit:n*i.size+news.length<=cur.size:=by rw[hl,hcs,<-Aee];exact Ae5 _ hroom
   have hst:=run_storeCells_at P g (n*i.size) e news 0 cur w hg (by simpa using hfit) hs.one;simp only[Nat.add_zero]at hst;have hr:(AeJ #[t,tx] ty #[.slice (some ⟨g,0,none⟩) n cap,x]).run P w = .ok (.slice (some ⟨g,0,none⟩) (n+m) cap) (w.setRow g (cur.toList.take (n*i.size)++news++cur.toList.drop (n*i.size+news.length)).toArray):=by
    rcases hs.kind with ⟨e',hk⟩ | hk <;> simp[AeJ,run_underlying ht,run_underlying hk,sizeOf,typeInfo,hi,hs.len,hroom,hs.cells,Ade,hst]
   refine⟨_,_,hr,⟨hlen, .inr ⟨g,cap,_,rfl,hbg,setRow_heap w g cur _ e _ hg,hroom,hcm,?_,?_⟩⟩,⟨⟨rfl,rfl,rfl,by simp,fun k _ hk=>setRow_other w g k _ (fun e=>hk (by simp[AbS,e]))⟩,fun k hk=> .inl hk⟩⟩
   ·simp only[Ab4,AbP,Ab5,Ab6,AdK];omega
   ·rw[htake,<-hlen];exact Ad4
  ·have holds:∀j u,xs[j]? =some u->w.cell? ((⟨g,0,none⟩:Addr).add j)=some u:=hown.cells (g:=g) rfl;have hgr:=grown cap (by omega);have hr:=run_append_grow_src (P:=P) w t tx ty e i z ht hi hz (some ⟨g,0,none⟩) n cap xs (run_firstCells_some w.drew i.size n ⟨g,0,none⟩ n cap xs hown.1 (by simpa using holds)) x m news hs (by omega) (by omega)
    (growslice_fits (by omega) hbytes)
   exact⟨_,_,hr,hgr.1,hgr.2⟩
theorem CU{ops:Array Aca}{rest:List Aca}{o:Aca}{a:Act}{Q:Aet->Act->AbJ->Prop}(hgd:o.guard=none)(s xo:AbV)(t tx:AbQ) 
  (ho:o.op = .call { callee:= .builtin .append,args:= #[s,xo],argTypes:= #[t,tx] })
  (base:Nat) (e:AbQ) (i:TypeInfo) (z:AbI) (size bytes:Nat) (ht:P.underlying t=some (.slice e)) (hi:P.info? e=some i) (hz:i.zero=some z)
  (hsize:i.size=size) (hby:i.bytes=bytes) (hzs:z.cells.size=size)
  (v:AbI) (n:Nat) (xs:List AbI) (hs:a.eval s=v) (hown:w.ownsRow base e size v n xs)
  (x:AbI) (m:Nat) (news:List AbI) (hx:a.eval xo=x) (hsrc:Src P size tx x m news w)
  (h63:n+m<=maxLen) (hbytes:(n+m)*bytes<=140737488355328) (hbase:base<=w.heap.size)
  (h:∀v' w',w'.ownsRow base e size v' (n+m) (xs++news)->Grew w w' v v' ->wpList P ops Q rest (a.put o.dst v') w'):wpList P ops Q (o :: rest) a w:=
 wpList_plain hgd fun K hK=>by
  obtain⟨v',w',hr,h2,h3⟩:=E7 (P:=P) w base t tx o.type e i z size bytes ht hi hz hsize hby hzs v n xs hown x m news hsrc h63 hbytes hbase;unfold Aex execOp;simp only[ho,resolve,invoke,builtin,AbY,Ab1,AbU,Acp,Aco,Acz,hs,hx,hr];exact hK _ _ (h v' w' h2 h3)
end
theorem BJ{w:AbJ}{b b' :Nat}{e:AbQ}{size:Nat}{v:AbI}{n:Nat}{xs:List AbI}(h:w.ownsRow b e size v n xs)(hb:b' <=b):w.ownsRow b' e size v n xs:=
 ⟨h.1,h.2.imp (fun x=>x) (fun⟨g,cap,cur,a,c,r⟩=>⟨g,cap,cur,a,AbM hb c,r⟩)⟩
def Reads(w:AbJ)(size:Nat)(v:AbI)(n:Nat)(xs:List AbI):Prop:=
 xs.length=n*size/\∃ao cap,v = .slice ao n cap/\n<=cap/\cap<=maxLen/\(ao=none->n=0/\cap=0)/\∀a,ao=some a->∀j u,xs[j]? =some u->w.cell? (a.add j)=some u
def RB(w:AbJ)(v:AbI)(l:Ah5):Prop:=Reads w 1 v l.length (AbK l)

theorem Ag(l:Ah5):∀u∈AbK l,u.oneCell' =true:=by
 intro u hu;obtain⟨_,_,rfl⟩:=List.mem_map.1 hu;rfl
theorem RB.src{P:Acg}{tx e' :AbQ}(hk:P.underlying tx=some (.slice e')){w:AbJ}{v:AbI}{l:Ah5}(h:RB w v l):Src P 1 tx v l.length (AbK l) w:=by
 obtain⟨h1,ao,cap,rfl,h2,h3,h4,h5⟩:=h;cases ao with
 | none=>
  obtain⟨h6,rfl⟩:=h4 rfl;have:l= []:=Acv h6;subst this;exact Src.ofNil w hk 0
 | some a=>exact Src.ofSlice w hk a _ cap _ h1 (h5 a rfl) (Ag l)
theorem RB.below{B:Nat}{w w' :AbJ}{v:AbI}{l:Ah5}(h:RB w v l)(hb:Below B w w')(hB:B=w.heap.size):RB w' v l:=by
 obtain⟨h1,ao,cap,rfl,h2,h3,h4,h5⟩:=h;refine⟨h1,ao,cap,rfl,h2,h3,h4,fun a ha j u hu=> ?_⟩;have:=h5 a ha j u hu;exact(hb.cell (by have:=Ada w _ this;omega)).trans this
theorem Ta(s:ByteArray):byteCells s=AbK s.data.toList:=rfl
theorem Q7{P:Acg}{tx:AbQ}(hk:P.underlying tx=some .string)(w:AbJ)(s:ByteArray):Src P 1 tx (.string s) s.data.toList.length (AbK s.data.toList) w:=by
 have h:=Src.ofString (P:=P) w hk s;rw[Ta]at h;exact h
theorem Ya{w:AbJ}{base:Nat}{e:AbQ}{v:AbI}{l:Ah5}(h:w.ownsRow base e 1 v l.length (AbK l)):RB w v l:=by
 refine⟨h.1,?_⟩;have h' :=h;rcases h.2 with ⟨rfl,h0⟩ | ⟨g,cap,cur,rfl,hbg,hg,hnc,hcm,hcs,htake⟩
 ·exact⟨none,0,by rw[h0],by omega,by simp[maxLen],fun _=>⟨h0,rfl⟩,fun a ha=>by cases ha⟩
 ·exact⟨some ⟨g,0,none⟩,cap,rfl,hnc,hcm,(fun h=>by cases h),(fun a ha j u hu=>by cases ha;exact h'.cells rfl j u hu)⟩
theorem Q8{P:Acg}{tx e' :AbQ}(hk:P.underlying tx=some (.slice e'))(w:AbJ)(c:AbI)(t:AbQ)(hc:c.oneCell' =true):Src P 1 tx (.slice (some ⟨w.heap.size,0,none⟩) 1 1) 1 [c] (w.alloc (.cells #[c] t)):=
 Src.ofSlice _ hk ⟨w.heap.size,0,none⟩ 1 1 [c] rfl (fun j u hj=>by
  match j,hj with
  | 0,hj=>simp at hj;subst hj;simp[AdO]) (fun u hu=>by simp at hu;subst hu;exact hc)
structure NewB (e : AbQ) (w w' : AbJ) (v : AbI) (l : Ah5) : Prop where
 own:w'.ownsRow w.heap.size e 1 v l.length (AbK l)
 by_:w.grownBy w' none
theorem NewB.rb{e:AbQ}{w w' :AbJ}{v:AbI}{l:Ah5}(h:NewB e w w' v l):RB w' v l:=Ya h.own
theorem NewB.below{e:AbQ}{w w' :AbJ}{v:AbI}{l:Ah5}(h:NewB e w w' v l):Below w.heap.size w w' :=
 (AcB _ _).grown h.by_ (AbO _) (fun k hk=>by cases hk)
theorem NewB.more{e:AbQ}{w w1 w2:AbJ}{v v' :AbI}{l l' :Ah5}(h:NewB e w w1 v l)(g:Grew w1 w2 v v')(ho:w2.ownsRow w.heap.size e 1 v' (l.length+l'.length) (AbK l++AbK l')):NewB e w w2 v' (l++l'):=
 ⟨by rw[AfV,AbP];exact ho,Ak h.by_ g.by_ (fun b hb=> .inr (h.own.lt b hb).1)⟩
theorem RB.keep{w w' :AbJ}{v:AbI}{l:Ah5}(h:RB w v l)(hb:Below w.heap.size w w'):RB w' v l:=h.below hb rfl
abbrev Abx:=@RB.keep
theorem RB.len{w:AbJ}{v:AbI}{l:Ah5}(h:RB w v l):∃ao cap,v = .slice ao l.length cap/\l.length<=cap/\cap<=9223372036854775807:=by
 obtain⟨h1,ao,cap,rfl,h2,h3,h4,h5⟩:=h;unfold maxLen at h3;exact⟨ao,cap,rfl,h2,h3⟩
open Go.ChangeShapes Go.WideShapes Go.ChangeAt Go.RowKit
open Go.ChangeMaps (open_string shut_string)
theorem own:ownKnob Tryz.prog.godebug=none:=by kernel_rfl
theorem O1:laidOutB Tryz.prog=true:=by kernel_rfl
abbrev Bu:=AbI->AbJ->Prop
def Is(v:AbI):Bu:=fun x _=>x=v
def Aa(ρ:Tmp->AbI):AbV->AbI
 | .tmp t=>ρ t
 | .const v=>v
 | .global g=> .pointer (some ⟨g,0,none⟩)
 | .func f=> .func (.func f) #[] #[]
theorem evalR_eq(a:Act):Aa (fun t=>a.tmps.getD t undef)=a.eval:=by
 funext x
 cases x <;> rfl
def Yk(P:Acg)(K:AbI->AbJ->Prop):AgG Next->Prop
 | .ok (.value v) w=>K v w
 | .ok .skip w=>K undef w
 | .ok (.enter f args) w=>Calls P f args w fun e w' =>∃v,e = .returned v/\K v w'
 | _=>False
def De(l:List Aca)(t:Tmp):Nat->Option Nat
 | 0=>none
 | n+1=>if(l[n]?.bind (·.dst))=some t then some n else De l t n
def F2(l:List Aca)(Φ:Nat->Bu)(T:Array AbI)(n:Nat)(t:Tmp)(x:AbI)(w:AbJ):Prop:=
 match De l t n with
 | none=>x=T.getD t undef
 | some k=>Φ k x w
def Bv(l:List Aca)(o:Aca)(ρ:Tmp->AbI):Bool:=
 match o.guard with
 | none=>true
 | some (g,want)=>match (l[g]?).bind (·.dst)with
  | some t=>(match ρ t with | .bool b=>b==want | _=>false)
  | none=>false
def GS(P:Acg)(l:List Aca)(C:Nat->AbJ->Prop)(R:Nat->AbJ->AbJ->Prop)(Φ:Nat->Bu)(T:Array AbI)(n:Nat)(o:Aca):Prop:=
 ∀(ρ:Tmp->AbI) (w:AbJ),C n w->(∀t∈o.looksAt l.toArray,F2 l Φ T n t (ρ t) w) ->
  if Bv l o ρ=true then Yk P (fun v w' =>R n w w' /\Φ n v w') ((execOp (Aa ρ) o).run P w)else Φ n undef w
def StepsOk(P:Acg)(l:List Aca)(C:Nat->AbJ->Prop)(R:Nat->AbJ->AbJ->Prop)(Φ:Nat->Bu)(T:Array AbI):Nat->List Aca->Prop
 | _,[]=>True
 | n,o :: r=>GS P l C R Φ T n o/\StepsOk P l C R Φ T (n+1) r
theorem StepsOk.get{P:Acg}{l:List Aca}{C:Nat->AbJ->Prop}{R:Nat->AbJ->AbJ->Prop}{Φ:Nat->Bu}{T:Array AbI}:
  ∀(r:List Aca) (n:Nat),StepsOk P l C R Φ T n r->∀k o,r[k]? =some o->GS P l C R Φ T (n+k) o
 | [],_,_,k,o,h=>by simp at h
 | x :: r,n,h,0,o,hk=>by simp at hk;subst hk;exact h.1
 | x :: r,n,h,k+1,o,hk=>by
  have:=StepsOk.get r (n+1) h.2 k o (by simpa using hk)
  rwa [show n+(k+1)=n+1+k by omega]
/-! ### The edges' closure, as bits -/
def GT(acc:List Nat)(o:Aca):Nat:=
 o.after.toList.foldl (fun s e=>if Adb .any e then s|||2^e.on|||acc.getD e.on 0 else s) 0
def AN:List Aca->List Nat->List Nat
 | [],acc=>acc
 | o :: r,acc=>AN r (acc++ [GT acc o])
theorem MP(acc:List Nat)(k:Nat):∀(es:List AcI) (s:Nat),(es.foldl (fun s e=>if Adb .any e then s|||2^e.on|||acc.getD e.on 0 else s) s).testBit k=true ->
  s.testBit k=true\/∃e∈es,Adb .any e=true/\(e.on=k\/(acc.getD e.on 0).testBit k=true)
 | [],s,h=> .inl h
 | e :: es,s,h=>by
  rw[AeK]at h;rcases MP acc k es _ h with h1 | ⟨e',he',hb,hx⟩
  ·by_cases hb:Adb .any e=true
   ·rw[if_pos hb]at h1;simp only[Nat.testBit_or,Ad7]at h1;rcases h1 with (h1 | h1) | h1
    ·exact .inl h1
    ·rw[Nat.testBit_two_pow]at h1;exact .inr ⟨e,by simp,hb, .inl (by simpa using h1)⟩
    ·exact .inr ⟨e,by simp,hb, .inr h1⟩
   ·rw[if_neg hb]at h1;exact .inl h1
  ·exact .inr ⟨e',by simp[he'],hb,hx⟩
theorem Oq{acc:List Nat}{o:Aca}{k:Nat}(h:(GT acc o).testBit k=true):
  ∃e∈o.after,Adb .any e=true/\(e.on=k\/(acc.getD e.on 0).testBit k=true):=by
 rcases MP acc k _ _ h with h1 | ⟨e,he,hb,hx⟩
 ·simp at h1
 ·exact⟨e,by simpa using he,hb,hx⟩
theorem Jz(l:List Aca):∀(r:List Aca) (acc:List Nat),acc.length+r.length=l.length->(∀j,r[j]? =l[acc.length+j]?) ->
  (∀i o k,i<acc.length->l[i]? =some o->(acc.getD i 0).testBit k=true->∃e∈o.after,Adb .any e=true/\(e.on=k\/(e.on<i/\(acc.getD e.on 0).testBit k=true))) ->
  ∀i o k,l[i]? =some o->((AN r acc).getD i 0).testBit k=true->∃e∈o.after,Adb .any e=true/\(e.on=k\/(e.on<i/\((AN r acc).getD e.on 0).testBit k=true))
 | [],acc,hl,_,hacc,i,o,k,hi,h=>by
  have:i<l.length:=(Acf.1 hi).1;exact hacc i o k (by simp at hl;omega) hi h
 | x :: r,acc,hl,hr,hacc,i,o,k,hi,h=>by
  rw[AN]at h ⊢;refine Jz l r (acc++ [GT acc x]) (by simp at hl ⊢;omega) (fun j=>by have:=hr (j+1);simp at this ⊢;rw[this];congr 1;omega) ?_ i o k hi h;intro i o k hlt ho ht;have keep:∀j,j<acc.length->(acc++ [GT acc x]).getD j 0=acc.getD j 0:=fun j hj=>by
   simp[Agj,List.getElem?_append_left hj]
  simp at hlt;by_cases hia:i<acc.length
  ·rw[keep i hia]at ht;obtain⟨e,he,hb,hx⟩:=hacc i o k hia ho ht;exact⟨e,he,hb,hx.imp id (fun h2=>⟨h2.1,by rw[keep _ (by omega)];exact h2.2⟩)⟩
  ·have hie:i=acc.length:=by omega
   subst hie;have a:x=o:=by
    have:=hr 0;simp[ho]at this;exact this
   subst a;have b:(acc++ [GT acc x]).getD acc.length 0=GT acc x:=by simp[Agj]
   rw[b]at ht;obtain⟨e,he,hb,hx⟩:=Oq ht;refine⟨e,he,hb,hx.imp id (fun h2=> ?_)⟩;by_cases hl:e.on<acc.length
   ·exact⟨hl,by rw[keep _ hl];exact h2⟩
   ·simp[Agj,AcR (show acc.length<=e.on by omega)]at h2
def IY(l:List Aca)(o:Aca):List Tmp:=o.dst.toList++o.looksAt l.toArray
def Cy(l:List Aca)(size:Nat):Bool:=
 let m:=AN l []
 l.zipIdx.all fun(o,j)=>
  (o.after.all fun e=> !Adb .any e||e.on<j) &&
  (match o.dst with | some d=>decide (d<size) | none=>true) &&
  l.zipIdx.all fun(p,i)=>decide (j<=i)||((match p.dst with | some d=> !(IY l o).contains d | none=>true)&&(match o.dst with | some d=> !(IY l p).contains d | none=>true))||(m.getD j 0).testBit i
structure H5 (l : List Aca) (size : Nat) : Prop where
 back:∀(j:Nat) (o:Aca),l[j]? =some o->∀e∈o.after,Adb .any e=true->e.on<j
 room:∀(j:Nat) (o:Aca) (d:Tmp),l[j]? =some o->o.dst=some d->d<size
 tied:∀(j:Nat) (o:Aca) (i:Nat) (p:Aca) (d:Tmp),l[j]? =some o->l[i]? =some p->i<j->(p.dst=some d/\d∈IY l o\/o.dst=some d/\d∈IY l p)->((AN l []).getD j 0).testBit i=true
theorem GU{l:List Aca}{size:Nat}(h:Cy l size=true):H5 l size:=by
 unfold Cy at h;simp only[Acx]at h;have hz:∀j o,l[j]? =some o->(o,j)∈l.zipIdx:=fun j o ho=>by
  rw[Aga];exact ho
 refine⟨fun j o ho e he hb=> ?_,fun j o d ho hd=> ?_,fun j o i p d ho hp hij hx=> ?_⟩
 ·have:=h _ (hz j o ho);simp only[AcQ]at this;have h2:=Array.all_eq_true_iff_forall_mem.1 this.1.1 e he
  simpa [hb] using h2
 ·have:=h _ (hz j o ho);simp only[AcQ,hd]at this
  simpa using this.1.2
 ·have:=h _ (hz j o ho);simp only[AcQ,Acx]at this;have h2:=this.2 _ (hz i p hp);simp only[Ad7,decide_eq_true_eq,AcQ]at h2;rcases h2 with (h2 | h2) | h2
  ·omega
  ·exfalso;rcases hx with ⟨h3,h4⟩ | ⟨h3,h4⟩
   ·have h5:=h2.1;rw[h3]at h5;simp at h5;exact h5 h4
   ·have h5:=h2.2;rw[h3]at h5;simp at h5;exact h5 h4
  ·exact h2
def CY(l:List Aca)(kill:Nat->List Nat):Bool:=
 let m:=AN l []
 l.zipIdx.all fun(o,j)=>(AcZ l.length).all fun n=>decide (n=j)||(kill n).all fun k=>(m.getD n 0).testBit j||(o.looksAt l.toArray).all fun t=>De l t j != some k
theorem Vg{l:List Aca}{kill:Nat->List Nat}(h:CY l kill=true)(j n k:Nat)(o:Aca)(t:Tmp)(ho:l[j]? =some o)(hn:n<l.length)(hne:n≠j)(hk:k∈kill n)(ht:t∈o.looksAt l.toArray)(hw:De l t j=some k):((AN l []).getD n 0).testBit j=true:=by
 unfold CY at h;simp only[Acx]at h;have h1:=h (o,j) (by rw[Aga];exact ho) n (by simpa using hn);simp only[Ad7,decide_eq_true_eq,hne,false_or,Acx]at h1;rcases h1 k hk with h2 | h2
 ·exact h2
 ·have:=h2 t ht;simp[hw]at this
section
variable {P : Acg} {l : List Aca} {kill : Nat -> List Nat} {C : Nat -> AbJ -> Prop} {E : Array Bool -> AbJ -> Prop} {R : Nat -> AbJ -> AbJ -> Prop} {Φ : Nat -> Bu} {a0 : Act}
def On(listed:Array Bool)(i:Nat):Prop:=listed.getD i false=true
theorem On.lt{listed:Array Bool}{i:Nat}(h:On listed i):i<listed.size:=by
 unfold On at h;rcases Nat.lt_or_ge i listed.size with h' | h'
 ·exact h'
 ·simp[AeR h']at h
theorem on_set{listed:Array Bool}{i j:Nat}(hi:i<listed.size):On (listed.setIfInBounds i true) j↔j=i\/On listed j:=by
 unfold On;by_cases h:i=j
 ·subst h;simp[hi]
 ·simp[AeG h,Ne.symm h]
structure Inv (l : List Aca) (kill : Nat -> List Nat) (C : Nat -> AbJ -> Prop) (E : Array Bool -> AbJ -> Prop) (Φ : Nat -> Bu) (a0 : Act) (listed : Array Bool) (a : Act) (w : AbJ) : Prop where
 size:listed.size=l.length
 closed:∀i o,l[i]? =some o->On listed i->∀e∈o.after,Adb .any e=true->On listed e.on
 defers:a.defers=a0.defers
 tmps:a.tmps.size=a0.tmps.size
 cls:∀n,n<l.length->¬On listed n->C n w
 ecl:E listed w
 old:∀t,(∀k o,l[k]? =some o->o.dst=some t->¬On listed k)->a.tmps.getD t undef=a0.tmps.getD t undef
 new:∀t k o,l[k]? =some o->o.dst=some t->On listed k->(∀k' o',k<k' ->l[k']? =some o' ->o'.dst=some t->¬On listed k')->(∀n,On listed n->k∉kill n)->Φ k (a.tmps.getD t undef) w
theorem Inv.mask{listed:Array Bool}{a:Act}{w:AbJ}(h:Inv l kill C E Φ a0 listed a w):
  ∀(i k:Nat),On listed i->((AN l []).getD i 0).testBit k=true->On listed k:=by
 intro i
 induction i using Aek with
 | _ i ih=>
  intro k hi hk;have hlt:i<l.length:=by have:=hi.lt;rw[h.size]at this;exact this
  have ho:l[i]? =some l[i]:=AbT hlt;obtain⟨e,he,hb,hx⟩:=Jz l l [] (by simp) (by simp) (fun i o k hi=>by simp at hi) i l[i] k ho hk;have hon:=h.closed i _ ho hi e he hb;rcases hx with rfl | ⟨b,ht⟩
  ·exact hon
  ·exact ih e.on b k hon ht
theorem Inv.maskReady{listed:Array Bool}{a:Act}{w:AbJ}(h:Inv l kill C E Φ a0 listed a w){i:Nat}{o:Aca}(ho:l[i]? =some o) 
  (hall:∀e∈o.after,Adb .any e=true->On listed e.on) {k:Nat} (hk:((AN l []).getD i 0).testBit k=true):On listed k:=by
 obtain⟨e,he,hb,hx⟩:=Jz l l [] (by simp) (by simp) (fun i o k hi=>by simp at hi) i o k ho hk;have hon:=hall e he hb;rcases hx with rfl | ⟨_,ht⟩
 ·exact hon
 ·exact h.mask _ _ hon ht
theorem Jg{t:Tmp}:∀(n:Nat),De l t n=none->∀(k:Nat) (o:Aca),k<n->l[k]? =some o->o.dst≠some t
 | 0,_,k,o,hk,_=>by omega
 | n+1,h,k,o,hk,ho=>by
  unfold De at h;split at h
  ·cases h
  ·rename_i hne
   by_cases hkn:k=n
   ·subst hkn;intro hd;simp[ho,hd]at hne
   ·exact Jg n h k o (by omega) ho
theorem Ew{t:Tmp}{k:Nat}:∀(n:Nat),De l t n=some k->k<n/\(∃o,l[k]? =some o/\o.dst=some t)/\∀(k' :Nat) (o' :Aca),k<k' ->k' <n->l[k']? =some o' ->o'.dst≠some t
 | 0,h=>by cases h
 | n+1,h=>by
  unfold De at h;split at h
  ·rename_i he
   have hkn:n=k:=Acu h;subst hkn;refine⟨by omega,?_,fun k' o' h1 h2=>by omega⟩;cases ho:l[n]? with
   | none=>simp[ho]at he
   | some o=>exact⟨o,rfl,by simpa [ho] using he⟩
  ·rename_i hne
   obtain⟨h1,h2,h3⟩:=Ew n h;refine⟨by omega,h2,fun k' o' hk hk' ho' hd=> ?_⟩;by_cases he:k' =n
   ·subst he;simp[ho',hd]at hne
   ·exact h3 k' o' hk (by omega) ho' hd
theorem Inv.look(g:H5 l a0.tmps.size)(hkl:CY l kill=true){listed:Array Bool}{a:Act}{w:AbJ}(h:Inv l kill C E Φ a0 listed a w){i:Nat}{o:Aca}(ho:l[i]? =some o)(hi:¬On listed i) 
  (hall:∀e∈o.after,Adb .any e=true->On listed e.on) (t:Tmp) (ht:t∈o.looksAt l.toArray):F2 l Φ a0.tmps i t (a.tmps.getD t undef) w:=by
 have hlate:∀k o',i<=k->l[k]? =some o' ->o'.dst=some t->¬On listed k:=fun k o' hk ho' hd hon=>by
  by_cases he:k=i
  ·subst he;exact hi hon
  ·exact hi (h.mask k i hon (g.tied k o' i o t ho' ho (by omega) (.inr ⟨hd,AdL _ ht⟩)))
 unfold F2;split
 ·rename_i hw
  refine h.old t fun k o' ho' hd hon=> ?_;by_cases hk:k<i
  ·exact Jg _ hw k o' hk ho' hd
  ·exact hlate k o' (by omega) ho' hd hon
 ·rename_i k hw
  obtain⟨hk,⟨ok,hok,hdk⟩,hno⟩:=Ew _ hw;refine h.new t k ok hok hdk (h.maskReady ho hall (g.tied i o k ok t ho hok hk (.inl ⟨hdk,AdL _ ht⟩))) (fun k' o' hkk ho' hd=> ?_) (fun n hon hkn=> ?_)
  ·by_cases hki:k' <i
   ·exact absurd hd (hno k' o' hkk hki ho')
   ·exact hlate k' o' (by omega) ho' hd
  ·have hne:n≠i:=fun e=>hi (e▸hon);exact hi (h.mask n i hon (Vg hkl i n k o t ho (by have:=hon.lt;rw[h.size]at this;exact this) hne hkn ht hw))
theorem Inv.put(g:H5 l a0.tmps.size)(hC:∀n m,n<l.length->m<l.length->n≠m->((AN l []).getD n 0).testBit m=false->∀w w',C m w->R n w w' ->C m w')(hE:∀n listed w w',n<l.length->listed.size=l.length->¬On listed n->(∀i k,On listed i\/i=n->((AN l []).getD i 0).testBit k=true->On listed k)->E listed w->R n w w' ->E (listed.setIfInBounds n true) w')(hΦ:∀n i,n<l.length->i<l.length->i∉kill n->i≠n->((AN l []).getD i 0).testBit n=false->∀v w w',Φ i v w->R n w w' ->Φ i v w'){listed:Array Bool}{a:Act}{w:AbJ}(h:Inv l kill C E Φ a0 listed a w){i:Nat}{o:Aca}(ho:l[i]? =some o)(hi:¬On listed i) 
  (hall:∀e∈o.after,Adb .any e=true->On listed e.on) {v:AbI} {w' :AbJ} (hR:R i w w') (hv:Φ i v w'):Inv l kill C E Φ a0 (listed.setIfInBounds i true) (a.put o.dst v) w' :=by
 have hil:i<listed.size:=by rw[h.size];exact(Acf.1 ho).1
 have hget:∀t,o.dst≠some t->(a.put o.dst v).tmps.getD t undef=a.tmps.getD t undef:=fun t ht=>by
  cases hd:o.dst with
  | none=>rfl
  | some d=>
   have hne:d≠t:=fun e=>ht (by rw[hd,e]);simp[Act.put,AeG hne]
 have hilen:i<l.length:=(Acf.1 ho).1;refine⟨by simpa using h.size,fun j oj hj hon e he hb=> ?_,?_,?_,fun m hm hno=> ?_,hE i listed w w' hilen h.size hi (fun j k hj hk=>hj.elim (fun hj=>h.mask j k hj hk) (fun hj=>by subst hj;exact h.maskReady ho hall hk)) h.ecl hR,fun t ht=> ?_,fun t k ok hk hd hon hlast hkl=> ?_⟩
 ·rcases(on_set hil).1 hon with rfl | hon
  ·obtain rfl:o=oj:=by rw[ho]at hj;exact Acu hj
   exact(on_set hil).2 (.inr (hall e he hb))
  ·exact(on_set hil).2 (.inr (h.closed j oj hj hon e he hb))
 ·cases hd:o.dst <;> exact h.defers
 ·cases hd:o.dst with
  | none=>exact h.tmps
  | some d=>simpa [Act.put] using h.tmps
 ·have hnm:i≠m:=fun e=>hno ((on_set hil).2 (.inl e.symm));have hoff:¬On listed m:=fun h' =>hno ((on_set hil).2 (.inr h'));refine hC i m hilen hm hnm ?_ _ _ (h.cls m hm hoff) hR;cases hb:((AN l []).getD i 0).testBit m with
  | false=>rfl
  | true=>exact absurd (h.maskReady ho hall hb) hoff
 ·have hne:o.dst≠some t:=fun hd=>ht i o ho hd ((on_set hil).2 (.inl rfl));rw[hget t hne];exact h.old t fun k ok hk hd hon=>ht k ok hk hd ((on_set hil).2 (.inr hon))
 ·by_cases hdt:o.dst=some t
  ·by_cases hki:k=i
   ·subst hki;have hroom:=g.room k o t ho hdt;have:(a.put o.dst v).tmps.getD t undef=v:=by
     rw[hdt];simp[Act.put,h.tmps,hroom]
    rw[this];exact hv
   ·exfalso;rcases(on_set hil).1 hon with he | hon
    ·exact hki he
    ·rcases Nat.lt_or_gt_of_ne hki with hlt | hgt
     ·exact hlast i o hlt ho hdt ((on_set hil).2 (.inl rfl))
     ·exact hi (h.mask k i hon (g.tied k ok i o t hk ho hgt (.inl ⟨hdt,Aeu _ (by simp[hd])⟩)))
  ·have hki:k≠i:=fun e=>by subst e;rw[ho]at hk;cases hk;exact hdt hd
   rw[hget t hdt];have hkon:On listed k:=((on_set hil).1 hon).resolve_left hki;have hmf:((AN l []).getD k 0).testBit i=false:=by
    cases hb:((AN l []).getD k 0).testBit i with
    | false=>rfl
    | true=>exact absurd (h.mask k i hkon hb) hi
   refine hΦ i k (Acf.1 ho).1 (Acf.1 hk).1 (hkl i ((on_set hil).2 (.inl rfl))) hki hmf _ _ _ (h.new t k ok hk hd (((on_set hil).1 hon).resolve_left hki) (fun k' o' hkk ho' hd' hon' => ?_) (fun n hn=>hkl n ((on_set hil).2 (.inr hn)))) hR;exact hlast k' o' hkk ho' hd' ((on_set hil).2 (.inr hon'))
theorem LC(a:Act)(o:Aca):Bv l o (fun t=>a.tmps.getD t undef)=Ac8 o (yielded l.toArray a.tmps):=by
 unfold Bv Ac8 yielded;cases hg:o.guard with
 | none=>rfl
 | some gw=>
  obtain⟨g,want⟩:=gw;simp only[AcN];cases hd:(l[g]?).bind (·.dst)with
  | none=>simp
  | some t=>
   simp only[Ad1];cases hx:a.tmps[t]? with
   | none=>simp[AcC,hx,undef]
   | some x=>cases x <;> simp[AcC,hx]
theorem Inv.step(g:H5 l a0.tmps.size)(hkl:CY l kill=true)(hC:∀n m,n<l.length->m<l.length->n≠m->((AN l []).getD n 0).testBit m=false->∀w w',C m w->R n w w' ->C m w')(hE:∀n listed w w',n<l.length->listed.size=l.length->¬On listed n->(∀i k,On listed i\/i=n->((AN l []).getD i 0).testBit k=true->On listed k)->E listed w->R n w w' ->E (listed.setIfInBounds n true) w')(hΦ:∀n i,n<l.length->i<l.length->i∉kill n->i≠n->((AN l []).getD i 0).testBit n=false->∀v w w',Φ i v w->R n w w' ->Φ i v w')(hRr:∀n o w,l[n]? =some o->o.guard.isSome=true->R n w w){listed:Array Bool}{a:Act}{w:AbJ}(h:Inv l kill C E Φ a0 listed a w){i:Nat}{o:Aca}(ho:l[i]? =some o)(hi:¬On listed i) 
  (hall:∀e∈o.after,Adb .any e=true->On listed e.on) (hs:GS P l C R Φ a0.tmps i o) {K:Act->AbJ->Prop} {Q:Aet->Act->AbJ->Prop}
  (hK:∀a' w',Inv l kill C E Φ a0 (listed.setIfInBounds i true) a' w' ->K a' w'):wpOp P l.toArray Q i K a w:=by
 have hst:=hs (fun t=>a.tmps.getD t undef) w (h.cls i (Acf.1 ho).1 hi) (fun t ht=>h.look g hkl ho hi hall t ht);rw[LC,evalR_eq]at hst;unfold wpOp;simp only[AcN,ho];by_cases hw:Ac8 o (yielded l.toArray a.tmps)=true
 ·rw[if_pos hw]at hst ⊢;refine .inl ?_;unfold Aex
  generalize (execOp a.eval o).run P w=r at hst ⊢
  cases r with
  | halt x w' =>exact hst.elim
  | ok n w' =>
   cases n <;> simp only[Yk]at hst <;> simp only[AeL]
   case value v=>exact hK _ _ (h.put g hC hE hΦ ho hi hall hst.1 hst.2)
   case skip=>exact hK _ _ (h.put g hC hE hΦ ho hi hall hst.1 hst.2)
   case enter f args=>
    refine hst.mono fun e w'' hx=> ?_;obtain⟨v,rfl,h1,h2⟩:=hx;exact hK _ _ (h.put g hC hE hΦ ho hi hall h1 h2)
 ·rw[if_neg hw]at hst ⊢;have hgs:o.guard.isSome=true:=by
   cases hgo:o.guard with
   | none=>exact absurd (by unfold Ac8;rw[hgo]) hw
   | some x=>rfl
  exact hK _ _ (h.put g hC hE hΦ ho hi hall (hRr i o w ho hgs) hst)
theorem Fp:∀(L:List Bool) (i:Nat),L[i]? =some false->((L.set i true).filter (!·)).length+1=(L.filter (!·)).length
 | [],i,h=>by simp at h
 | x :: L,0,h=>by simp at h;subst h;simp
 | x :: L,i+1,h=>by
  have ih:=Fp L i (by simpa using h);cases x <;> simp <;> omega
theorem EP:∀(L:List Bool),(L.filter (!·)).length=0->∀i:Nat,i<L.length->L[i]? =some true
 | [],_,i,h=>by simp at h
 | x :: L,h0,i,h=>by
  cases x
  ·simp at h0
  ·cases i with
   | zero=>rfl
   | succ i=>
    rw[Adl];exact EP L (by simpa using h0) i (by simpa using h)
theorem Wt(g:H5 l a0.tmps.size)(hkl:CY l kill=true)(hC:∀n m,n<l.length->m<l.length->n≠m->((AN l []).getD n 0).testBit m=false->∀w w',C m w->R n w w' ->C m w')(hE:∀n listed w w',n<l.length->listed.size=l.length->¬On listed n->(∀i k,On listed i\/i=n->((AN l []).getD i 0).testBit k=true->On listed k)->E listed w->R n w w' ->E (listed.setIfInBounds n true) w')(hΦ:∀n i,n<l.length->i<l.length->i∉kill n->i≠n->((AN l []).getD i 0).testBit n=false->∀v w w',Φ i v w->R n w w' ->Φ i v w')(hRr:∀n o w,l[n]? =some o->o.guard.isSome=true->R n w w)(hs:StepsOk P l C R Φ a0.tmps 0 l){Q:Aet->Act->AbJ->Prop} 
  (hQ:∀listed a' w',(∀i,i<l.length->On listed i)->Inv l kill C E Φ a0 listed a' w' ->Q .normal a' w'):
  ∀(fuel:Nat) (listed:Array Bool) (a:Act) (w:AbJ),(listed.toList.filter (!·)).length=fuel->Inv l kill C E Φ a0 listed a w->wpAny P .any l.toArray Q fuel listed a w:=by
 have full:∀(listed:Array Bool) (a:Act) (w:AbJ),Inv l kill C E Φ a0 listed a w->Adf .any l.toArray listed= []->∀i,i<l.length->On listed i:=by
  intro listed a w h hr i
  induction i using Aek with
  | _ i ih=>
   intro hi;refine AdA fun hno=> ?_;have ho:l[i]? =some l[i]:=AbT hi;have:i∈Adf .any l.toArray listed:=by
    refine mem_ready.2 ⟨?_,l[i],by rw[AcN];exact ho,fun e he hb=> ?_⟩
    ·have hi' :i<listed.size:=by rw[h.size];exact hi
     unfold On at hno;simp[hi']at hno ⊢;exact hno
    ·have hlt:=g.back i _ ho e he hb;exact ih e.on hlt (by omega)
   rw[hr]at this;cases this
 intro fuel
 induction fuel with
 | zero=>
  intro listed a w hf h;have hon:∀i,i<l.length->On listed i:=fun i hi=>by
   have:=EP _ hf i (by rw[AdK,h.size];exact hi);unfold On;simp at this;simp[this]
  have hr:Adf .any l.toArray listed= []:=by
   cases hr:Adf .any l.toArray listed with
   | nil=>rfl
   | cons x xs=>
    exfalso;have hm:x∈Adf .any l.toArray listed:=by rw[hr];simp
    obtain⟨h1,o,ho,_⟩:=mem_ready.1 hm;have hx:x<l.length:=by simpa using (Ace.1 ho).1
    have h2:=hon x hx;have hx' :x<listed.size:=h2.lt;unfold On at h2;simp[hx']at h1 h2;rw[h1]at h2;cases h2
  exact⟨hr,hQ _ _ _ hon h⟩
 | succ fuel ih=>
  intro listed a w hf h;refine⟨fun hr=>hQ _ _ _ (full listed a w h hr) h,fun i hi=> ?_⟩;obtain⟨h1,o,ho,hall⟩:=mem_ready.1 hi;have ho' :l[i]? =some o:=by simpa using ho
  have hil:i<listed.size:=by rw[h.size];exact(Acf.1 ho').1
  have hno:¬On listed i:=by
   unfold On;simp[hil]at h1 ⊢;exact h1
  have hst:=hs.get l 0 i o ho';rw[Ac2]at hst;refine h.step g hkl hC hE hΦ hRr ho' hno (fun e he hb=>hall e he hb) hst fun a' w' h' =>ih _ _ _ ?_ h';rw[Aen];have:=Fp listed.toList i (by
   simp[hil]at h1;simp[hil,h1])
  omega
def slotsW(l:List Aca):List Tmp:=(l.filterMap (·.dst)).eraseDups
def Df(T:Array AbI)(ds:List Tmp)(u:Tmp->AbI):Array AbI:=ds.foldl (fun T d=>T.setIfInBounds d (u d)) T
theorem Dg(u:Tmp->AbI):∀(ds:List Tmp) (T:Array AbI),(Df T ds u).size=T.size
 | [],T=>rfl
 | d :: ds,T=>by unfold Df;rw[AeK];exact(Dg u ds _).trans (by simp)
theorem H6(u:Tmp->AbI)(t:Tmp):∀(ds:List Tmp) (T:Array AbI),t<T.size->(Df T ds u).getD t undef=if t∈ds then u t else T.getD t undef
 | [],T,_=>by simp[Df]
 | d :: ds,T,ht=>by
  have ih:=H6 u t ds (T.setIfInBounds d (u d)) (by simpa using ht);unfold Df at ih ⊢;rw[AeK,ih];by_cases h1:t∈ds
  ·simp[h1]
  ·by_cases h2:t=d
   ·subst h2;simp[h1,ht]
   ·simp[h1,h2,AeG (Ne.symm h2)]
def Bg(l:List Aca)(kill:Nat->List Nat)(Φ:Nat->Bu)(u:Tmp->AbI)(w:AbJ):List Tmp->Prop
 | []=>True
 | d :: ds=>(match De l d l.length with | some k=>if(AcZ l.length).all (fun n=> !(kill n).contains k)=true then Φ k (u d) w else True | none=>True)/\Bg l kill Φ u w ds
theorem Fh{u:Tmp->AbI}{w:AbJ}(h:∀d k,De l d l.length=some k->(AcZ l.length).all (fun n=> !(kill n).contains k)=true->Φ k (u d) w):∀ds,Bg l kill Φ u w ds
 | []=>trivial
 | d :: ds=>⟨by split;(split;(exact h d _ ‹_› ‹_›);trivial);trivial,Fh h ds⟩
theorem Wu(T:Array AbI)(df:List Deferred){Q:Aet->Act->AbJ->Prop}(ds:List Tmp)(hds:slotsW l=ds) 
  (hQ:∀(u:Tmp->AbI) listed w',(∀i,i<l.length->On listed i)->E listed w' ->Bg l kill Φ u w' ds->Q .normal { tmps:=Df T ds u,defers:=df } w'):
  ∀listed a' w',(∀i,i<l.length->On listed i)->Inv l kill C E Φ { tmps:=T,defers:=df } listed a' w' ->Q .normal a' w' :=by
 intro listed a' w' hon h;have hw:∀d k,De l d l.length=some k->(AcZ l.length).all (fun n=> !(kill n).contains k)=true->Φ k (a'.tmps.getD d undef) w' :=fun d k hk hall=>by
  obtain⟨h1,⟨o,ho,hd⟩,h3⟩:=Ew _ hk;refine h.new d k o ho hd (hon k h1) (fun k' o' hkk ho' hd' _=>h3 k' o' hkk (Acf.1 ho').1 ho' hd') (fun n hn hkn=> ?_);have hnl:n<l.length:=by have:=hn.lt;rw[h.size]at this;exact this
  have:=Acx.1 hall n (by simpa using hnl);simp at this;exact this hkn
 have hq:=hQ (fun t=>a'.tmps.getD t undef) listed w' hon h.ecl (Fh hw ds);have he:a' = { tmps:=Df T ds (fun t=>a'.tmps.getD t undef),defers:=df } :=by
  have h1:a'.tmps=Df T ds (fun t=>a'.tmps.getD t undef):=by
   apply Array.ext (by rw[Dg];exact h.tmps)
   intro t ht1 ht2;have ht3:t<T.size:=by rw[Dg]at ht2;exact ht2
   have hx:=H6 (fun t=>a'.tmps.getD t undef) t ds T ht3;have a:∀(A:Array AbI) (ht:t<A.size),A.getD t undef=A[t]:=fun A ht=>by
    rw[AcC,Array.getElem?_eq_getElem ht,Option.getD_some]
   rw[a _ ht2]at hx;by_cases hn:t∈ds
   ·rw[if_pos hn,a _ ht1]at hx;exact hx.symm
   ·rw[if_neg hn,a _ ht3]at hx;have ho:a'.tmps.getD t undef=T.getD t undef:=h.old t fun k o ho hd _=>hn (by
     rw[<-hds];unfold slotsW;rw[Afn,Aef];exact⟨o,AcV ho,hd⟩)
    rw[a _ ht1,a _ ht3]at ho;exact ho.trans hx.symm
  have h2:=h.defers;cases a';simp only at h1 h2;subst h2;rw[<-h1]
 rw[he];exact hq
theorem Ej(kill:Nat->List Nat)(C:Nat->AbJ->Prop)(E:Array Bool->AbJ->Prop)(R:Nat->AbJ->AbJ->Prop)(Φ:Nat->Bu){id:Nat}{Q:Aet->Act->AbJ->Prop}{w:AbJ}(hm:P.follows .mixedOrders=true)(T:Array AbI)(df:List Deferred) 
  (hg:Cy l T.size=true) (hkl:CY l kill=true) (ds:List Tmp) (hds:slotsW l=ds) (hC:∀n m,n<l.length->m<l.length->n≠m->((AN l []).getD n 0).testBit m=false->∀w w',C m w->R n w w' ->C m w') (hE:∀n listed w w',n<l.length->listed.size=l.length->¬On listed n->(∀i k,On listed i\/i=n->((AN l []).getD i 0).testBit k=true->On listed k)->E listed w->R n w w' ->E (listed.setIfInBounds n true) w') (hΦ:∀n i,n<l.length->i<l.length->i∉kill n->i≠n->((AN l []).getD i 0).testBit n=false->∀v w w',Φ i v w->R n w w' ->Φ i v w') (hRr:∀n o w,l[n]? =some o->o.guard.isSome=true->R n w w)
  (h0:∀n,n<l.length->C n { w with drawn:=w.drawn+1 }) (h1:E (Adx l.toArray.size false) { w with drawn:=w.drawn+1 })
  (hs:StepsOk P l C R Φ T 0 l)
  (hQ:∀(u:Tmp->AbI) listed w',(∀i,i<l.length->On listed i)->E listed w' ->Bg l kill Φ u w' ds->Q .normal { tmps:=Df T ds u,defers:=df } w'):(AfI id l.toArray true).wp P Q { tmps:=T,defers:=df } w:=by
 have g:=GU hg;refine wp_region_any hm (Wt (a0:= { tmps:=T,defers:=df }) g hkl hC hE hΦ hRr hs (fun listed a' w' hon h=> ?_) _ _ _ _ (by simp) ?_)
 ·exact Wu T df ds hds hQ listed a' w' hon h
 ·have hno:∀i,¬On (Adx l.toArray.size false) i:=fun i h=>by
   unfold On at h;rw[AcC,Adg]at h;split at h <;> simp at h
  exact⟨AfW,fun i o _ h=>absurd h (hno i),rfl,rfl,fun n hn _=>h0 n hn,h1,fun t _=>rfl,fun t k o _ _ h=>absurd h (hno k)⟩
theorem Gm(kill:Nat->List Nat)(C:AbJ->Prop)(R:Nat->AbJ->AbJ->Prop)(Φ:Nat->Bu){id:Nat}{Q:Aet->Act->AbJ->Prop}{w:AbJ}(hm:P.follows .mixedOrders=true)(T:Array AbI)(df:List Deferred) 
  (hg:Cy l T.size=true) (hkl:CY l kill=true) (ds:List Tmp) (hds:slotsW l=ds) (hC:∀n w w',C w->R n w w' ->C w') (hΦ:∀n i,n<l.length->i<l.length->i∉kill n->i≠n->((AN l []).getD i 0).testBit n=false->∀v w w',Φ i v w->R n w w' ->Φ i v w') (hRr:∀n o w,l[n]? =some o->o.guard.isSome=true->R n w w) (h0:C { w with drawn:=w.drawn+1 })
  (hs:StepsOk P l (fun _=>C) R Φ T 0 l)
  (hQ:∀(u:Tmp->AbI) w',C w' ->Bg l kill Φ u w' ds->Q .normal { tmps:=Df T ds u,defers:=df } w'):(AfI id l.toArray true).wp P Q { tmps:=T,defers:=df } w:=
 Ej kill (fun _=>C) (fun _=>C) R Φ hm T df hg hkl ds hds (fun n _ _ _ _ _=>hC n) (fun n _ w w' _ _ _ _=>hC n w w') hΦ hRr (fun _ _=>h0) h0 hs (fun u _ w' _=>hQ u w')
theorem F3{C:Nat->AbJ->Prop}{R:Nat->AbJ->AbJ->Prop}{T:Array AbI}{n:Nat}{o:Aca}(hg:o.guard=none) 
  (h:∀ρ w,C n w->(∀t∈o.looksAt l.toArray,F2 l Φ T n t (ρ t) w)->Yk P (fun v w' =>R n w w' /\Φ n v w') ((execOp (Aa ρ) o).run P w)):GS P l C R Φ T n o:=by
 intro ρ w hC hl;have:Bv l o ρ=true:=by unfold Bv;rw[hg]
 rw[if_pos this];exact h ρ w hC hl
theorem Yk.value{K:AbI->AbJ->Prop}{r:AgG Next}{v:AbI}{w' :AbJ}(hr:r = .ok (.value v) w')(h:K v w'):Yk P K r:=by rw[hr];exact h
abbrev Aa4:=@Yk.value
theorem Yk.enter{K:AbI->AbJ->Prop}{r:AgG Next}{f:AdB}{args:Array AbI}{w' :AbJ}(hr:r = .ok (.enter f args) w')(h:Calls P f args w' fun e w'' =>∃v,e = .returned v/\K v w''):Yk P K r:=by rw[hr];exact h
end
def Plain(P:Acg)(f:AdB):Prop:=∀xs w,(callFunc f xs).run P w = .ok (.enter f xs) w
theorem H7{P:Acg}{f:AdB}(hp:Plain P f)(ρ:AbV->AbI)(args:List AbV)(at_:Array AbQ)(dst:Option Tmp)(ty:AbQ)(pos:String)(af:Array AcI)(gd:Option (Nat × Bool))(w:AbJ) 
  (hρ:ρ (.func f) = .func (.func f) #[] #[]):(execOp ρ ⟨dst, .call ⟨.value (.func f),args.toArray,at_⟩,ty,pos,af,gd⟩).run P w = .ok (.enter f (args.map ρ).toArray) w:=by
 simp[execOp,resolve,invoke,Deferred.ofValue,hρ,hp _ w]
theorem Yk.call{P:Acg}{K:AbI->AbJ->Prop}{f:AdB}(hp:Plain P f){ρ:Tmp->AbI}{args:List AbV}{at_:Array AbQ}{dst:Option Tmp}{ty:AbQ}{pos:String}{af:Array AcI}{gd:Option (Nat × Bool)}{w:AbJ} 
  (h:Calls P f (args.map (Aa ρ)).toArray w fun e w'' =>∃v,e = .returned v/\K v w''):Yk P K ((execOp (Aa ρ) ⟨dst, .call ⟨.value (.func f),args.toArray,at_⟩,ty,pos,af,gd⟩).run P w):=
 Yk.enter (H7 hp (Aa ρ) args at_ dst ty pos af gd w rfl) h
def Stab(R:AbJ->AbJ->Prop)(φ:Bu):Prop:=∀v w w',φ v w->R w w' ->φ v w'
theorem X0{R:AbJ->AbJ->Prop}(v:AbI):Stab R (Is v):=fun _ _ _ h _=>h
theorem Stab.any{R:AbJ->AbJ->Prop}:Stab R (fun _ _=>True):=fun _ _ _ _ _=>trivial
abbrev AbE:=@Stab.any
def AllStab(R:AbJ->AbJ->Prop):List Bu->Prop
 | []=>True
 | φ :: r=>Stab R φ/\AllStab R r
theorem LD{R:AbJ->AbJ->Prop}{a b:AbI}{Φs:List Bu}(h:AllStab R Φs):AllStab R (Is a :: Is b :: Φs):=⟨X0 _,X0 _,h⟩
theorem Wv{R:AbJ->AbJ->Prop}{a b c e:AbI}{Φs:List Bu}(h:AllStab R Φs):AllStab R (Is a :: Is b :: Is c :: Is e :: Φs):=⟨X0 _,X0 _,X0 _,X0 _,h⟩
theorem Xw{R:AbJ->AbJ->Prop}{a b c e f g:AbI}{Φs:List Bu}(h:AllStab R Φs):AllStab R (Is a :: Is b :: Is c :: Is e :: Is f :: Is g :: Φs):=⟨X0 _,X0 _,X0 _,X0 _,X0 _,X0 _,h⟩
theorem Xx{R:AbJ->AbJ->Prop}{a b c e f g i j k:AbI}{Φs:List Bu}(h:AllStab R Φs):AllStab R (Is a :: Is b :: Is c :: Is e :: Is f :: Is g :: Is i :: Is j :: Is k :: Φs):=⟨X0 _,X0 _,X0 _,X0 _,X0 _,X0 _,X0 _,X0 _,X0 _,h⟩
theorem Ww{R:AbJ->AbJ->Prop}{a b c e f g i j k l m n:AbI}{Φs:List Bu}(h:AllStab R Φs):AllStab R (Is a :: Is b :: Is c :: Is e :: Is f :: Is g :: Is i :: Is j :: Is k :: Is l :: Is m :: Is n :: Φs):=⟨X0 _,X0 _,X0 _,X0 _,X0 _,X0 _,X0 _,X0 _,X0 _,X0 _,X0 _,X0 _,h⟩
theorem AllStab.get{R:AbJ->AbJ->Prop}:∀(Φs:List Bu),AllStab R Φs->∀i,Stab R (Φs.getD i (fun _ _=>True))
 | [],_,i=>by simpa using AbE
 | φ :: r,h,0=>h.1
 | φ :: r,h,i+1=>by simpa using AllStab.get r h.2 i
def AT(Φs:List Bu)(i:Nat):Bu:=Φs.getD i (fun _ _=>True)
def Ext(w w' :AbJ):Prop:=Below w.heap.size w w'
theorem Ext.refl(w:AbJ):Ext w w:=AcB _ _
abbrev AaY:=@Ext.refl
theorem Ext.trans{a b c:AbJ}(h:Ext a b)(k:Ext b c):Ext a c:=Below.trans h (k.mono h.size)

theorem Ms{P:Acg}{l:List Aca}(Φs:List Bu){id:Nat}{Q:Aet->Act->AbJ->Prop}{w:AbJ}(hm:P.follows .mixedOrders=true)(T:Array AbI)(df:List Deferred) 
  (hg:Cy l T.size=true) (ds:List Tmp) (hds:slotsW l=ds) (hst:AllStab Ext Φs) (hs:StepsOk P l (fun _=>Ext w) (fun _=>Ext) (AT Φs) T 0 l)
  (hQ:∀(u:Tmp->AbI) w',Ext w w' ->Bg l (fun _=> []) (AT Φs) u w' ds->Q .normal { tmps:=Df T ds u,defers:=df } w'):(AfI id l.toArray true).wp P Q { tmps:=T,defers:=df } w:=
 Gm (fun _=> []) (Ext w) (fun _=>Ext) (AT Φs) hm T df hg
  (by unfold CY;simp) ds hds (fun _ _ _ h k=>h.trans k) (fun _ i _ _ _ _ _=>hst.get Φs i) (fun _ _ w _ _=>AaY w) (AcB _ _).drew hs hQ
def FJ(l:List Aca)(n:Nat):Bool:=l.length==n+1&&(AcZ n).all fun m=>((AN l []).getD n 0).testBit m
theorem Fq{l:List Aca}{n:Nat}(h:FJ l n=true):l.length=n+1/\∀m,m<n->((AN l []).getD n 0).testBit m=true:=by
 unfold FJ at h;simp only[AcQ,beq_iff_eq,Acx,Afz]at h;exact h
theorem YH{n i:Nat}:¬On (Adx n false) i:=fun h=>by
 unfold On at h;rw[AcC,Adg]at h;split at h <;> simp at h
open Classical in
theorem W6{l:List Aca}{n:Nat}(hn:FJ l n=true){S:AbJ->AbJ->Prop}{w:AbJ}(k:Nat)(listed:Array Bool)(w1 w' :AbJ)(hk:k<l.length)(hsz:listed.size=l.length)(hoff:¬On listed k) 
  (hm:∀i j,On listed i\/i=k->((AN l []).getD i 0).testBit j=true->On listed j) (hE:if On listed n then ∃w2,Ext w w2/\S w2 w1 else Ext w w1) (hR:(if k=n then S else Ext) w1 w'):
  if On (listed.setIfInBounds k true) n then ∃w2,Ext w w2/\S w2 w' else Ext w w' :=by
 obtain⟨hl,hb⟩:=Fq hn;by_cases hkn:k=n
 ·subst hkn;rw[if_neg hoff]at hE;rw[if_pos rfl]at hR;by_cases h:On (listed.setIfInBounds k true) k
  ·rw[if_pos h];exact⟨_,hE,hR⟩
  ·exact absurd ((on_set (by omega)).2 (.inl rfl)) h
 ·have hno:¬On listed n:=fun h=>hoff (hm n k (.inl h) (hb k (by omega)));rw[if_neg hno]at hE;rw[if_neg hkn]at hR;rw[if_neg]
  ·exact hE.trans hR
  ·intro h;exact((on_set (by omega)).1 h).elim (fun e=>hkn e.symm) hno
open Classical in
theorem J7{P:Acg}{l:List Aca}(n:Nat)(S:AbJ->AbJ->Prop)(Φs:List Bu){id:Nat}{Q:Aet->Act->AbJ->Prop}{w:AbJ}(hm:P.follows .mixedOrders=true)(T:Array AbI)(df:List Deferred) 
  (hg:Cy l T.size=true) (hn:FJ l n=true) (ds:List Tmp) (hds:slotsW l=ds) (hSr:(l[n]?.bind (·.guard))=none) (hst:AllStab Ext Φs) (hsS:AllStab S Φs) (hs:StepsOk P l (fun _=>Ext w) (fun k=>if k=n then S else Ext) (AT Φs) T 0 l)
  (hQ:∀(u:Tmp->AbI) w1 w',Ext w w1->S w1 w' ->Bg l (fun _=> []) (AT Φs) u w' ds->Q .normal { tmps:=Df T ds u,defers:=df } w'):(AfI id l.toArray true).wp P Q { tmps:=T,defers:=df } w:=by
 obtain⟨hl,hb⟩:=Fq hn;refine Ej (fun _=> []) (fun _=>Ext w) (fun listed w' =>if On listed n then ∃w2,Ext w w2/\S w2 w' else Ext w w') (fun k=>if k=n then S else Ext) (AT Φs) hm T df hg (by unfold CY;simp) ds hds
  (fun k m hk hm hne hbit w1 w' hc hr=> ?_) (fun k listed w1 w' hk hsz hoff hm hE hR=>W6 hn k listed w1 w' hk hsz hoff hm hE hR) (fun k i _ _ _ _ _ v w1 w' => ?_) (fun k o w1 ho hgo=> ?_) (fun _ _=>(AcB _ _).drew) (by rw[if_neg YH];exact(AcB _ _).drew) hs (fun u listed w' hall hE=> ?_)
 ·by_cases hkn:k=n
  ·subst hkn;rw[hb m (by omega)]at hbit;cases hbit
  ·rw[if_neg hkn]at hr;exact hc.trans hr
 ·by_cases hkn:k=n
  ·rw[if_pos hkn];exact hsS.get Φs i v w1 w'
  ·rw[if_neg hkn];exact hst.get Φs i v w1 w'
 ·by_cases hkn:k=n
  ·subst hkn;rw[ho]at hSr;simp only[Ad1]at hSr;rw[hSr]at hgo;cases hgo
  ·rw[if_neg hkn];exact AaY w1
 ·rw[if_pos (hall n (by omega))]at hE;obtain⟨w1,h1,h2⟩:=hE;exact hQ u w1 w' h1 h2
def MQ(l:List Aca)(k:Nat):Bool:=((AcZ k).all fun m=>((AN l []).getD k 0).testBit m)&&((AcZ l.length).all fun i=>decide (i<=k)||((AN l []).getD i 0).testBit k)
theorem MR{l:List Aca}{k:Nat}(h:MQ l k=true):(∀m,m<k->((AN l []).getD k 0).testBit m=true)/\∀i,k<i->i<l.length->((AN l []).getD i 0).testBit k=true:=by
 unfold MQ at h;simp only[AcQ,Acx,Afz,Ad7,decide_eq_true_eq]at h;exact⟨h.1,fun i hi hl=>(h.2 i hl).resolve_left (by omega)⟩
theorem Mt{P:Acg}{l:List Aca}(k:Nat)(Φs:List Bu){id:Nat}{Q:Aet->Act->AbJ->Prop}{w:AbJ}(hm:P.follows .mixedOrders=true)(T:Array AbI)(df:List Deferred) 
  (hg:Cy l T.size=true) (hk:MQ l k=true) (ds:List Tmp) (hds:slotsW l=ds) (hst:AllStab Ext Φs) (hsT:AllStab (fun _ _=>True) (Φs.take k)) (hgk:(l[k]?.bind (·.guard))=none)
  (hs:StepsOk P l (fun m=>if m<=k then Ext w else fun _=>True) (fun n=>if n=k then fun _ _=>True else Ext) (AT Φs) T 0 l)
  (hQ:∀(u:Tmp->AbI) w',Bg l (fun _=> []) (AT Φs) u w' ds->Q .normal { tmps:=Df T ds u,defers:=df } w'):(AfI id l.toArray true).wp P Q { tmps:=T,defers:=df } w:=by
 have hm1:=MR hk;refine Ej (fun _=> []) (fun m=>if m<=k then Ext w else fun _=>True) (fun _ _=>True) (fun n=>if n=k then fun _ _=>True else Ext) (AT Φs) hm T df hg (by unfold CY;simp) ds hds
  (fun n m hn hm hne hbit w1 w' hc hr=> ?_) (fun _ _ _ _ _ _ _ _ _ _=>trivial) (fun n i hn hi _ hine hbit v w1 w' => ?_) (fun n o w1 ho hgo=> ?_) (fun n _=> ?_) trivial hs (fun u listed w' _ _=>hQ u w')
 ·by_cases hmk:m<=k
  ·rw[if_pos hmk]at hc ⊢;by_cases hnk:n=k
   ·subst hnk;rw[hm1.1 m (by omega)]at hbit;cases hbit
   ·rw[if_neg hnk]at hr;exact hc.trans hr
  ·rw[if_neg hmk];trivial
 ·by_cases hnk:n=k
  ·rw[if_pos hnk];subst hnk;by_cases hik:i<n
   ·have:=hsT.get _ i v w1 w';rw[show AT Φs i=(Φs.take n).getD i (fun _ _=>True) by simp[AT,AbN,hik]];exact this
   ·rw[hm1.2 i (by omega) hi]at hbit;cases hbit
  ·rw[if_neg hnk];exact hst.get Φs i v w1 w'
 ·by_cases hnk:n=k
  ·subst hnk;rw[ho]at hgk;simp only[Ad1]at hgk;rw[hgk]at hgo;cases hgo
  ·rw[if_neg hnk];exact AaY w1
 ·by_cases hnk:n<=k
  ·rw[if_pos hnk];exact(AcB _ _).drew
  ·rw[if_neg hnk];trivial
theorem K9{P:Acg}{l:List Aca}(ks:List Nat)(kill:Nat->List Nat)(C:AbJ->Prop)(Rk:AbJ->AbJ->Prop)(Φs:List Bu){id:Nat}{Q:Aet->Act->AbJ->Prop}{w:AbJ}(hm:P.follows .mixedOrders=true)(T:Array AbI)(df:List Deferred) 
  (hg:Cy l T.size=true) (hkl:CY l kill=true) (ds:List Tmp) (hds:slotsW l=ds) (hC:∀w w',C w->Ext w w' ->C w') (hCk:∀w w',C w->Rk w w' ->C w') (hRk:∀w,Rk w w) (h0:C w.drew) (hst:AllStab Ext Φs)
  (hsk:∀n i,n∈ks->i<l.length->i∉kill n->i≠n->((AN l []).getD i 0).testBit n=false->Stab Rk (AT Φs i))
  (hs:StepsOk P l (fun _=>C) (fun n=>if n∈ks then Rk else Ext) (AT Φs) T 0 l)
  (hQ:∀(u:Tmp->AbI) w',C w' ->Bg l kill (AT Φs) u w' ds->Q .normal { tmps:=Df T ds u,defers:=df } w'):(AfI id l.toArray true).wp P Q { tmps:=T,defers:=df } w:=by
 refine Gm kill C (fun n=>if n∈ks then Rk else Ext) (AT Φs) hm T df hg hkl ds hds (fun n w w' h k=> ?_) (fun n i _ hi hk hne hb=> ?_) (fun n _ w _ _=> ?_) h0 hs hQ
 ·by_cases hn:n∈ks
  ·rw[if_pos hn]at k;exact hCk _ _ h k
  ·rw[if_neg hn]at k;exact hC _ _ h k
 ·by_cases hn:n∈ks
  ·rw[if_pos hn];exact hsk n i hn hi hk hne hb
  ·rw[if_neg hn];exact hst.get Φs i
 ·by_cases hn:n∈ks
  ·rw[if_pos hn];exact hRk w
  ·rw[if_neg hn];exact AaY w
variable {P : Acg}
theorem MS{w:AbJ}{src dst e:AbQ}(hs:P.underlying src=some (.slice e))(he:P.underlying e=some (.int .u8))(hd:P.underlying dst=some .string){v:AbI}{l:Ah5}(h:RB w v l):
  (convert src dst v).run P w = .ok (.string ⟨l.toArray⟩) w:=by
 obtain⟨h1,ao,cap,rfl,h2,h3,h4,h5⟩:=h;cases ao with
 | none=>
  obtain⟨h6,rfl⟩:=h4 rfl;have:l= []:=Acv h6;subst this;rw[run_convert_bytes_string w src dst e _ _ _ hs he hd];simp[Conv.bytesToString,Ab1];rfl
 | some a=>exact run_convert_bytes_back w src dst e a cap l hs he hd (fun j hj=>h5 a rfl j _ (by simp[AbK,hj]))
theorem Or{ops:Array Aca}{rest:List Aca}{o:Aca}{a:Act}{w:AbJ}{Q:Aet->Act->AbJ->Prop}(hgd:o.guard=none)(src dst:AbQ)(x:AbV)(ho:o.op = .convert src dst x) 
  {e:AbQ} (hs:P.underlying src=some (.slice e)) (he:P.underlying e=some (.int .u8)) (hd:P.underlying dst=some .string) (v:AbI) (l:Ah5) (hx:a.eval x=v) (h:RB w v l)
  (hK:wpList P ops Q rest (a.put o.dst (.string ⟨l.toArray⟩)) w):wpList P ops Q (o :: rest) a w:=
 wpList_plain hgd fun K hK' =>by
  have hr:=MS (P:=P) hs he hd h;unfold Aex execOp;simp only[ho,hx,hr,AbY,Ab1,AbU];exact hK' _ _ hK
theorem MT(a b:Ah5):(⟨a.toArray⟩:ByteArray)++⟨b.toArray⟩=⟨(a++b).toArray⟩:=by
 apply ByteArray.ext
 rw[ByteArray.data_append];simp
theorem Aad{K:AbI->AbJ->Prop}{ρ:Tmp->AbI}{t ty2:AbQ}{x y:AbV}{d:Option Tmp}{ty:AbQ}{pos:String}{af:Array AcI}{gd:Option (Nat × Bool)}{w:AbJ}{l1 l2:Ah5} 
  (hx:Aa ρ x = .string ⟨l1.toArray⟩) (hy:Aa ρ y = .string ⟨l2.toArray⟩) (hb:l1.length+l2.length<=9223372036854775807) (hk:K (.string ⟨(l1++l2).toArray⟩) w):Yk P K ((execOp (Aa ρ) ⟨d, .binOp .add t x y ty2,ty,pos,af,gd⟩).run P w):=by
 refine Aa4 (v:= .string ⟨(l1++l2).toArray⟩) (w' :=w) ?_ hk;have hr:=run_string_add_sum (P:=P) (w:=w) ⟨l1.toArray⟩ ⟨l2.toArray⟩ (show l1.toArray.size+l2.toArray.size<=_ from hb);rw[MT]at hr;simp[execOp,hx,hy,eqGuard,binOp,hr]
theorem Yk.append{K:AbI->AbJ->Prop}{ρ:Tmp->AbI}(s x:AbV){t tx:AbQ}{d:Option Tmp}{ty:AbQ}{pos:String}{af:Array AcI}{gd:Option (Nat × Bool)}{w:AbJ} 
  (base:Nat) (e:AbQ) (z:AbI) (size bytes:Nat) (ht:P.underlying t=some (.slice e)) (hi:(P.info? e).map (fun i=>(i.zero,i.size,i.bytes))=some (some z,size,bytes)) (hzs:z.cells.size=size)
  (n:Nat) (xs:List AbI) (hown:w.ownsRow base e size (Aa ρ s) n xs) (m:Nat) (news:List AbI) (hsrc:Src P size tx (Aa ρ x) m news w)
  (h63:n+m<=maxLen) (hbytes:(n+m)*bytes<=140737488355328) (hbase:base<=w.heap.size)
  (h:∀v' w',w'.ownsRow base e size v' (n+m) (xs++news)->Grew w w' (Aa ρ s) v' ->K v' w'):
  Yk P K ((execOp (Aa ρ) ⟨d, .call ⟨.builtin .append,[s,x].toArray,[t,tx].toArray⟩,ty,pos,af,gd⟩).run P w):=by
 obtain⟨i,hi,hz,hsize,hby⟩:=info_parts hi;obtain⟨v',w',hr,h2,h3⟩:=E7 (P:=P) w base t tx ty e i z size bytes ht hi hz hsize hby hzs (Aa ρ s) n xs hown (Aa ρ x) m news hsrc h63 hbytes hbase;refine Aa4 (v:=v') (w' :=w') ?_ (h v' w' h2 h3);unfold execOp;simp only[resolve,invoke,builtin,AbY,Ab1,AbU,Acp,Aco,Acz,hr]
theorem Stab.rb(l:Ah5):Stab Ext (fun x w=>RB w x l):=fun _ _ _ h k=>h.keep k
theorem Ext.grown{w w' :AbJ}(h:Ext w w'):w.grownBy w' none:=⟨h.os,h.tape,h.output,h.size,fun k hk _=>h.block k hk⟩
theorem Zl{w w' :AbJ}(h:w.grownBy w' none):Ext w w' :=(AcB _ _).grown h (AbO _) (fun k hk=>by cases hk)
theorem Stab.own(base:Nat)(e:AbQ)(size:Nat)(n:Nat)(xs:List AbI):Stab Ext (fun x w=>w.ownsRow base e size x n xs):=fun v _ _ h k=>h.kept k.grown (by cases v.ownBlock <;> simp)
abbrev Aa5:=@Stab.own
theorem NewB.ext{e:AbQ}{w w' :AbJ}{v:AbI}{l:Ah5}(h:NewB e w w' v l):Ext w w' :=h.below

theorem Ext.blk'{w w' :AbJ}(h:Ext w w'){b:Nat}{o:Obj}(hb:w.heap[b]? =some o):w'.heap[b]? =some o:=
 (h.block b (Ace.1 hb).1).trans hb
abbrev Abk:=@Ext.blk'
theorem eb{w w' :AbJ}(h:Ext w w'){b:Nat}{o:Obj}(hb:w.heap[b]? =some o):w'.heap[b]? =some o:=Abk h hb
theorem ZC{K:AbI->AbJ->Prop}{ρ:Tmp->AbI}(s x:AbV){dT sT elem:AbQ}{d:Option Tmp}{ty:AbQ}{pos:String}{af:Array AcI}{gd:Option (Nat × Bool)}{w:AbJ} 
  (hu:P.underlying dT=some (.slice elem)) (hsz:(P.info? elem).map (·.size)=some 1) {g o dLen dCap:Nat} (hs:Aa ρ s = .slice (some ⟨g,o,none⟩) dLen dCap) {l:Ah5} (hx:RB w (Aa ρ x) l)
  {cur:Array AbI} {t:AbQ} (hg:w.heap[g]? =some (.cells cur t (0,0))) (hfit:o+AeI l.length dLen<=cur.size)
  (h:K (goInt (AeI l.length dLen)) (w.setRow g (cur.toList.take o++AbK (l.take dLen)++cur.toList.drop (o+AeI l.length dLen)).toArray)):
  Yk P K ((execOp (Aa ρ) ⟨d, .call ⟨.builtin .copy,[s,x].toArray,[dT,sT].toArray⟩,ty,pos,af,gd⟩).run P w):=by
 obtain⟨h1,ao,cap,hv,h2,h3,h4,h5⟩:=hx;have hlen:(AbK (l.take dLen)).length=AeI l.length dLen:=by rw[AbZ,Ab5];exact Nat.min_comm _ _
 refine Aa4 (v:=goInt (AeI l.length dLen)) (w' :=w.setRow g (cur.toList.take o++AbK (l.take dLen)++cur.toList.drop (o+AeI l.length dLen)).toArray) ?_ h;have hrun:(Builtin.copy_ #[dT,sT] ty #[.slice (some ⟨g,o,none⟩) dLen dCap, .slice ao l.length cap]).run P w = .ok (goInt (AeI l.length dLen)) (w.setRow g (cur.toList.take o++AbK (l.take dLen)++cur.toList.drop (o+AeI l.length dLen)).toArray):=by
  cases ao with
  | none=>
   obtain⟨h6,rfl⟩:=h4 rfl;have:l= []:=Acv h6;subst this;have hr:=run_copy_nil (P:=P) w dT sT ty elem ⟨g,o,none⟩ dLen dCap hu (by rw[hsz];rfl);have e:(cur.toList.take o++AbK ([].take dLen)++cur.toList.drop (o+AeI ([]:Ah5).length dLen)).toArray=cur:=by
    simp[AbK]
   rw[e,setRow_self w g cur t (0,0) hg]
   simpa using hr
  | some a=>
   have hr:=run_copy_row (P:=P) w dT sT ty elem g o dLen dCap a l.length cap cur t (AbK (l.take dLen)) hu hsz hg hlen (fun j v hj=>h5 a rfl j v (by
    have hj' :=hj;simp only[AbK,Agn,AdP]at hj';split at hj'
    ·exact hj'
    ·cases hj')) (by rw[hlen];exact hfit) (Ag _)
   rw[hlen]at hr;exact hr
 unfold execOp;simp only[resolve,invoke,builtin,AbY,Ab1,AbU,Acp,Aco,Acz,hs,hv,hrun]
theorem H8{ops:Array Aca}{rest:List Aca}{o:Aca}{a:Act}{w:AbJ}{Q:Aet->Act->AbJ->Prop}(hgd:o.guard=none)(v:AbI)(w' :AbJ)(hr:(execOp a.eval o).run P w = .ok (.value v) w') 
  (h:wpList P ops Q rest (a.put o.dst v) w'):wpList P ops Q (o :: rest) a w:=
 wpList_plain hgd fun K hK=>by
  unfold Aex;rw[hr];exact hK _ _ h
/-! ### Whole arrays and structs in blocks of their own -/
theorem Gn(w:AbJ)(g:Nat)(ty:AbQ)(cells cur:Array AbI)(t:AbQ)(hg:w.heap[g]? =some (.cells cur t (0,0)))(hs:cells.size=cur.size)(hi:(P.info? ty).map (·.size)=some cells.size)(h1:∀v∈cells.toList,v.oneCell' =true):
  (Aeo ty (.pointer (some ⟨g,0,none⟩)) (.agg cells)).run P w = .ok () (w.setRow g cells):=by
 have hst:=run_storeCells_at P g 0 t cells.toList 0 cur w hg (by simp[hs]) h1;have e:(cur.toList.take (0+0)++cells.toList++cur.toList.drop (0+0+cells.toList.length)).toArray=cells:=by
  simp;rw[AcU (by simp[hs])];simp
 rw[e]at hst;cases hq:P.info? ty with
 | none=>simp[hq]at hi
 | some i=>
  have hs:cells.size=i.size:=by simp[hq]at hi;omega
  simp[Aeo,Ad9,storeVar,sizeOf,typeInfo,hq,Aff,hs,hst]
theorem JA{ops:Array Aca}{rest:List Aca}{o:Aca}{a:Act}{w:AbJ}{Q:Aet->Act->AbJ->Prop}(hgd:o.guard=none)(ty:AbQ)(x y:AbV)(ho:o.op = .store ty x y) 
  (g:Nat) (hx:a.eval x = .pointer (some ⟨g,0,none⟩)) (cells cur:Array AbI) (t:AbQ) (hy:a.eval y = .agg cells) (hg:w.heap[g]? =some (.cells cur t (0,0))) (hs:cells.size=cur.size) (hi:(P.info? ty).map (·.size)=some cells.size) (h1:∀v∈cells.toList,v.oneCell' =true)
  (h:wpList P ops Q rest (a.put o.dst undef) (w.setRow g cells)):wpList P ops Q (o :: rest) a w:=
 wpList_plain hgd fun K hK=>by
  have hr:=Gn (P:=P) w g ty cells cur t hg hs hi h1;unfold Aex execOp;simp only[ho,hx,hy,hr,AbY,Ab1,AbU];exact hK _ _ h
theorem FI{ops:Array Aca}{rest:List Aca}{o:Aca}{a:Act}{w:AbJ}{Q:Aet->Act->AbJ->Prop}(hgd:o.guard=none)(ty:AbQ)(x y:AbV)(ho:o.op = .store ty x y) 
  (g:Nat) (hx:a.eval x = .pointer (some ⟨g,0,none⟩)) (cells:Array AbI) (t:AbQ) (hy:a.eval y = .agg cells) (hg:w.heap[g]? =some (.cells cells t (0,0))) (hi:(P.info? ty).map (·.size)=some cells.size) (h1:∀v∈cells.toList,v.oneCell' =true)
  (h:wpList P ops Q rest (a.put o.dst undef) w):wpList P ops Q (o :: rest) a w:=
 JA hgd ty x y ho g hx cells cells t hy hg rfl hi h1 (by rw[setRow_self w g cells t (0,0) hg];exact h)
theorem HT{fn:Func}{p q r:Tmp}{ty:AbQ}(h:fn.results = #[.cell p ty, .tmp q, .tmp r])(tmps:Array AbI)(w:AbJ)(g:Nat)(t:AbQ)(cs:Array AbI)(fr:Nat × Nat)(d:TypeDesc) 
  (hp:tmps.getD p undef = .pointer (some ⟨g,0,none⟩)) (hg:w.heap[g]? =some (.cells cs t fr))
  (hu:P.underlying ty=some d) (hd:(match d with | .struct _ | .array _ _=>true | _=>false)=true) (hi:(P.info? ty).map (·.size)=some cs.size):
  (results fn tmps).run P w = .ok (.tuple #[.agg cs,tmps.getD q undef,tmps.getD r undef]) w:=by
 have hp' :tmps[p]?.getD undef = .pointer (some ⟨g,0,none⟩):=by simpa using hp
 simp[results,h,hp',asAddr,run_loadVar_row w g t ty cs fr d hg hu hd hi]
/-! ### Slices of slices -/
theorem F4(a:Addr)(m n:Nat):(a.add m).add n=a.add (m+n):=by
 cases a with
 | mk b o sp=>
  unfold AdO;split <;> split <;> simp_all
  all_goals (try omega)
theorem Dh{t e:AbQ}{size:Nat}(ht:P.underlying t=some (.slice e))(he:∀w' :AbJ,(sizeOf e).run P w' = .ok size w'){w:AbJ}{v:AbI}{n:Nat}{xs:List AbI}(hr:Reads w size v n xs)(lo hi:Option AbI)(l h:Nat)(hlh:l<=h)(hn:h<=n) 
  (hlo:lo=none/\l=0\/∃k,lo=some (.int k l)) (hhi:hi=none/\h=n\/∃k,hi=some (.int k h)):
  ∃ao c,((Afd t v lo hi none).run P w = .ok (.slice ao (h-l) c) w/\(Value.slice ao (h-l) c).ownBlock=v.ownBlock)/\Reads w size (.slice ao (h-l) c) (h-l) ((xs.drop (l*size)).take ((h-l)*size)):=by
 obtain⟨h1,ao,cap,rfl,h2,h3,h4,h5⟩:=hr;have hE:P.elem t=e:=by simp[Program.elem,ht]
 have ht' :P.underlying t=some (.slice (P.elem t)):=by rw[hE];exact ht
 refine⟨if cap=l then ao else ao.map (·.add (l*size)),cap-l,⟨?_,?_⟩,?_,_,_,rfl,by omega,by omega,?_,?_⟩
 ·rw[run_sliceAt_slice (P:=P) w t _ _ _ _ ht'];have hl' :(l:Int)<=(h:Int):=by omega
  have hh' :(h:Int)<=(cap:Int):=by omega
  have hn' :(l:Int)<=(n:Int):=by omega
  rcases hlo with ⟨rfl,rfl⟩ | ⟨k,rfl⟩ <;> rcases hhi with ⟨rfl,rfl⟩ | ⟨k',rfl⟩
  ·rw[run_slice_all (P:=P) w t ao h cap ht',hE,he];simp[AcF,sliced]
  ·rw[run_slice_h (P:=P) w t ao n cap ht' k' h (by omega) hh',hE,he];simp[AcF,sliced]
  ·rw[run_slice_l (P:=P) w t ao h cap ht' k l (by omega) hl',hE,he];simp[AcF,sliced]
  ·rw[run_slice_lh (P:=P) w t ao n cap ht' k k' l h (by omega) hl' hh',hE,he];simp[AcF,sliced]
 ·cases ao with
  | none=>simp[AbS]
  | some x=>
   split
   ·rfl
   ·simp only[Ac3,AbS,Adw];unfold AdO;split <;> rfl
 ·rw[Ab5,Ab6,h1];have:(h-l)*size<=n*size-l*size:=by rw[<-Nat.sub_mul];exact Ae5 _ (by omega)
  omega
 ·intro hnone;have:ao=none:=by
   cases ao with
   | none=>rfl
   | some x=>split at hnone <;> simp at hnone
  obtain⟨h6,h7⟩:=h4 this;omega
 ·intro a ha j u hu;have hj:j<((xs.drop (l*size)).take ((h-l)*size)).length:=(Acf.1 hu).1;have hj2:j<(h-l)*size:=by rw[Ab5]at hj;omega
  have hhl:h-l≠0:=fun e=>by rw[e]at hj2;simp at hj2
  rw[if_neg (by omega)]at ha;cases ao with
  | none=>simp at ha
  | some x=>
   simp at ha;subst ha;rw[F4];refine h5 x rfl _ _ ?_;rw[AdP,if_pos hj2,List.getElem?_drop]at hu;exact hu
theorem Jf{t e:AbQ}{size:Nat}(ht:P.underlying t=some (.slice e))(he:∀w' :AbJ,(sizeOf e).run P w' = .ok size w'){w:AbJ}{v:AbI}{n:Nat}{xs:List AbI}(hr:Reads w size v n xs)(lo hi:Option AbI)(l h:Nat)(hlh:l<=h)(hn:h<=n) 
  (hlo:lo=none/\l=0\/∃k,lo=some (.int k l)) (hhi:hi=none/\h=n\/∃k,hi=some (.int k h)):
  ∃ao c,(Afd t v lo hi none).run P w = .ok (.slice ao (h-l) c) w/\Reads w size (.slice ao (h-l) c) (h-l) ((xs.drop (l*size)).take ((h-l)*size)):=by
 obtain⟨ao,c,h1,h2⟩:=Dh ht he hr lo hi l h hlh hn hlo hhi;exact⟨ao,c,h1.1,h2⟩
theorem YY{w:AbJ}{v:AbI}{xs:Ah5}{l h:Nat}(hn:h<=xs.length)(hR:Reads w 1 v (h-l) (((AbK xs).drop (l*1)).take ((h-l)*1))):RB w v ((xs.drop l).take (h-l)):=by
 have a:((xs.drop l).take (h-l)).length=h-l:=by rw[Ab5,Ab6];omega
 unfold RB;rw[a];have b:AbK ((xs.drop l).take (h-l))=((AbK xs).drop (l*1)).take ((h-l)*1):=by
  simp[AbK,Agn,Ahv]
 rw[b];exact hR
theorem RB.kept{w w' :AbJ}{v:AbI}{l:Ah5}(h:RB w v l){row:Option Nat}(hg:w.grownBy w' row)(hv:v.ownBlock=none\/v.ownBlock≠row):RB w' v l:=by
 obtain⟨h1,ao,cap,rfl,h2,h3,h4,h5⟩:=h;refine⟨h1,ao,cap,rfl,h2,h3,h4,fun a ha j u hu=> ?_⟩;have hc:=h5 a ha j u hu;subst ha;have hlt:=Ada w _ hc;have hbl:(a.add j).block=a.block:=by unfold AdO;split <;> rfl
 have hne:(some a.block)≠row:=by
  rcases hv with hv | hv
  ·cases hv
  ·exact hv
 rw[hbl]at hlt;rw[World.cell?_of_block (w:=w) (by rw[hbl];exact hg.block a.block hlt hne)];exact hc
abbrev Abp:=@RB.kept
theorem Tb{w w' :AbJ}(h:w.grownBy w' none)(row:Option Nat):w.grownBy w' row:=⟨h.os,h.tape,h.output,h.size,fun k hk _=>h.block k hk (by simp)⟩
theorem Jh{t e:AbQ}(ht:P.underlying t=some (.slice e))(he:∀w' :AbJ,(sizeOf e).run P w' = .ok 1 w'){w:AbJ}{v:AbI}{xs:Ah5}(hr:RB w v xs)(lo hi:Option AbI)(l h:Nat)(hlh:l<=h)(hn:h<=xs.length) 
  (hlo:lo=none/\l=0\/∃k,lo=some (.int k l)) (hhi:hi=none/\h=xs.length\/∃k,hi=some (.int k h)):
  ∃ao c,(Afd t v lo hi none).run P w = .ok (.slice ao (h-l) c) w/\RB w (.slice ao (h-l) c) ((xs.drop l).take (h-l)):=by
 obtain⟨ao,c,hrun,hR⟩:=Jf ht he hr lo hi l h hlh hn hlo hhi;refine⟨ao,c,hrun,?_⟩;have a:((xs.drop l).take (h-l)).length=h-l:=by rw[Ab5,Ab6];omega
 unfold RB;rw[a];have b:AbK ((xs.drop l).take (h-l))=((AbK xs).drop (l*1)).take ((h-l)*1):=by
  simp[AbK,Agn,Ahv]
 rw[b];exact hR
theorem GV{ops:Array Aca}{rest:List Aca}{o:Aca}{a:Act}{w:AbJ}{Q:Aet->Act->AbJ->Prop}(hgd:o.guard=none)(t:AbQ)(x:AbV)(lo hi:Option AbV)(ho:o.op = .slice t x lo hi none) 
  {e:AbQ} (ht:P.underlying t=some (.slice e)) (he:∀w' :AbJ,(sizeOf e).run P w' = .ok 1 w') (v:AbI) (xs:Ah5) (hx:a.eval x=v) (hr:RB w v xs) (l h:Nat) (hlh:l<=h) (hn:h<=xs.length)
  (hlo:lo.map a.eval=none/\l=0\/∃k,lo.map a.eval=some (.int k l)) (hhi:hi.map a.eval=none/\h=xs.length\/∃k,hi.map a.eval=some (.int k h))
  (hK:∀ao c,RB w (.slice ao (h-l) c) ((xs.drop l).take (h-l))->wpList P ops Q rest (a.put o.dst (.slice ao (h-l) c)) w):wpList P ops Q (o :: rest) a w:=
 wpList_plain hgd fun K hK' =>by
  obtain⟨ao,c,hrun,hR⟩:=Jh ht he hr (lo.map a.eval) (hi.map a.eval) l h hlh hn hlo hhi;unfold Aex execOp;simp only[ho,hx,AdE,hrun,AbY,Ab1,AbU];exact hK' _ _ (hK ao c hR)
theorem RB.open_{w:AbJ}{v:AbI}{l:Ah5}(h:RB w v l)(hl:0<l.length):∃b off cap,v = .slice (some ⟨b,off,none⟩) l.length cap/\l.length<=cap/\cap<=9223372036854775807/\b<w.heap.size/\∀i,i<l.length->w.cell? ⟨b,off+i,none⟩=some (.int .u8 ((l.getD i 0).toNat:Int)):=by
 obtain⟨h1,ao,cap,rfl,h2,h3,h4,h5⟩:=h;cases ao with
 | none=>have:=(h4 rfl).1;omega
 | some a=>
  obtain⟨b,off,sp⟩:=a;have hc:∀i,i<l.length->w.cell? ((⟨b,off,sp⟩:Addr).add i)=some (.int .u8 ((l.getD i 0).toNat:Int)):=fun i hi=>h5 _ rfl i _ (by simp[AbK,hi]);have hsp:sp=none:=by
   have:=hc 0 hl
   simpa [AdO] using AeA this
  subst hsp;refine⟨b,off,cap,rfl,h2,by simpa [maxLen] using h3,Ada w _ (hc 0 hl),fun i hi=> ?_⟩;have:=hc i hi
  rwa [Ade]at this
theorem Z0{K:AbI->AbJ->Prop}{ρ:Tmp->AbI}{t e:AbQ}{x:AbV}{lo hi:Option AbV}{d:Option Tmp}{ty:AbQ}{pos:String}{af:Array AcI}{gd:Option (Nat × Bool)}{w:AbJ} 
  (ht:P.underlying t=some (.slice e)) (he:∀w' :AbJ,(sizeOf e).run P w' = .ok 1 w') {xs:Ah5} (hr:RB w (Aa ρ x) xs) (l h:Nat) (hlh:l<=h) (hn:h<=xs.length)
  (hlo:lo.map (Aa ρ)=none/\l=0\/∃k,lo.map (Aa ρ)=some (.int k l)) (hhi:hi.map (Aa ρ)=none/\h=xs.length\/∃k,hi.map (Aa ρ)=some (.int k h))
  (hK:∀ao c,RB w (.slice ao (h-l) c) ((xs.drop l).take (h-l))->K (.slice ao (h-l) c) w):Yk P K ((execOp (Aa ρ) ⟨d, .slice t x lo hi none,ty,pos,af,gd⟩).run P w):=by
 obtain⟨ao,c,hrun,hR⟩:=Jh ht he hr (lo.map (Aa ρ)) (hi.map (Aa ρ)) l h hlh hn hlo hhi;refine Aa4 (v:= .slice ao (h-l) c) (w' :=w) ?_ (hK ao c hR);unfold execOp;simp only[AdE,hrun,AbY,Ab1,AbU]
abbrev Ac:=Tmp->AbI
def MU(ρ:Ac)(d:Tmp)(v:AbI):Ac:=fun t=>cond (Aea t d) v (ρ t)
def updO(ρ:Ac)(d:Option Tmp)(v:AbI):Ac:=match d with
 | none=>ρ
 | some d=>MU ρ d v
structure Fits (n : Nat) (ρ : Ac) (a : Act) : Prop where
 size:a.tmps.size=n
 defers:a.defers= []
 get:∀t,a.tmps.getD t undef=ρ t
theorem Fits.eval{n:Nat}{ρ:Ac}{a:Act}(h:Fits n ρ a):a.eval=Aa ρ:=by
 funext x
 cases x with
 | tmp t=>exact h.get t
 | _=>rfl
theorem Fits.put{n:Nat}{ρ:Ac}{a:Act}(h:Fits n ρ a)(d:Option Tmp)(hd:∀t,d=some t->t<n)(v:AbI):Fits n (updO ρ d v) (a.put d v):=by
 cases d with
 | none=>exact h
 | some d=>
  have hdn:=hd d rfl;refine⟨by simp[Act.put,h.size],h.defers,fun t=> ?_⟩;have hg:=h.get t;simp only[updO,MU,Act.put,AcC,Array.getElem?_setIfInBounds,h.size]at hg ⊢;by_cases htd:t=d
  ·subst htd;simp[hdn]
  ·have hb:Aea t d=false:=by
    cases hb:Aea t d with
    | false=>rfl
    | true=>exact absurd (Nat.eq_of_beq_eq_true hb) htd
   rw[hb,if_neg (fun e=>htd e.symm)];exact hg
theorem H9{T:Array AbI}{d:Nat}{b:Bool}(h:T.getD d undef = .bool b):T[d]? =some (.bool b):=by
 rw[AcC]at h;cases hx:T[d]? with
 | none=>rw[hx]at h;cases h
 | some x=>rw[hx]at h;simp at h;rw[h]
abbrev BG:=Aet->Ac->AbJ->Prop
def B1(P:Acg)(n:Nat)(c:Code)(Q:BG)(ρ:Ac)(w:AbJ):Prop:=
 ∀a,Fits n ρ a->c.wp P (fun e a' w' =>∃ρ',Fits n ρ' a' /\Q e ρ' w') a w
def Gp(K:Ac->AbJ->Prop)(Q:BG):BG
 | .normal,ρ,w=>K ρ w
 | e,ρ,w=>Q e ρ w
def EJ(id:Nat)(Q:BG):BG
 | .exit id',ρ,w=>if id' =id then Q .normal ρ w else Q (.exit id') ρ w
 | e,ρ,w=>Q e ρ w
def O2(Q:BG):BG
 | .goto _,_,_=>False
 | e,ρ,w=>Q e ρ w
section
variable {P : Acg} {n : Nat} {Q : BG} {ρ : Ac} {w : AbJ}
theorem wpF_mono{c:Code}{Q' :BG}(h:B1 P n c Q ρ w)(hq:∀e ρ w,Q e ρ w->Q' e ρ w):B1 P n c Q' ρ w:=
 fun a ha=>wp_mono (h a ha) fun e _ w ⟨ρ',hf,hQ⟩=>⟨ρ',hf,hq e ρ' w hQ⟩
theorem DE(h:Q .normal ρ w):B1 P n .skip Q ρ w:=fun _ ha=>wp_skip ⟨ρ,ha,h⟩
theorem Tc{id:Nat}(h:Q (.exit id) ρ w):B1 P n (.exit id) Q ρ w:=fun _ ha=>wp_exit ⟨ρ,ha,h⟩
theorem IZ(h:Q .ret ρ w):B1 P n .ret Q ρ w:=fun _ ha=>wp_ret ⟨ρ,ha,h⟩
theorem O3{x y:Code}(h:B1 P n x (Gp (B1 P n y Q) Q) ρ w):B1 P n (.seq x y) Q ρ w:=fun a ha=>
 wp_seq (wp_mono (h a ha) fun e a' w' ⟨ρ',hf,hQ⟩=>by
  cases e with
  | normal=>exact hQ a' hf
  | _=>exact⟨ρ',hf,hQ⟩)
theorem sk{x y:Code}(h:∀K:Ac->AbJ->Prop,(∀ρ w,B1 P n y Q ρ w->K ρ w)->B1 P n x (Gp K Q) ρ w):B1 P n (.seq x y) Q ρ w:=O3 (h _ fun _ _ h=>h)
theorem EK{c:AbV}{x y:Code}(hc:Aa ρ c = .bool true)(h:B1 P n x Q ρ w):B1 P n (.cond c x y) Q ρ w:=fun a ha=>wp_cond_true (by rw[ha.eval];exact hc) (h a ha)
theorem CJ{c:AbV}{x y:Code}(hc:Aa ρ c = .bool false)(h:B1 P n y Q ρ w):B1 P n (.cond c x y) Q ρ w:=fun a ha=>wp_cond_false (by rw[ha.eval];exact hc) (h a ha)
theorem Td{c:AbV}{x y:Code}(p:Prop)[Decidable p](hc:Aa ρ c = .bool (decide p))(h1:p->B1 P n x Q ρ w)(h2:¬p->B1 P n y Q ρ w):B1 P n (.cond c x y) Q ρ w:=by
 by_cases hp:p
 ·exact EK (by rw[hc,decide_eq_true hp]) (h1 hp)
 ·exact CJ (by rw[hc,decide_eq_false hp]) (h2 hp)
theorem Q9{c:AbV}{x y:Code}(b:Bool)(hc:Aa ρ c = .bool b)(h1:b=true->B1 P n x Q ρ w)(h2:b=false->B1 P n y Q ρ w):B1 P n (.cond c x y) Q ρ w:=by
 cases b
 ·exact CJ hc (h2 rfl)
 ·exact EK hc (h1 rfl)
theorem Ra{id:Nat}{c:Code}(h:B1 P n c (EJ id Q) ρ w):B1 P n (.block id c) Q ρ w:=fun a ha=>
 wp_block (wp_mono (h a ha) fun e a' w' ⟨ρ',hf,hQ⟩=>by
  cases e with
  | exit id' =>
   simp only[EJ]at hQ;simp only[Exit.inBlock];split at hQ
   ·rw[if_pos ‹_›];exact⟨ρ',hf,hQ⟩
   ·rw[if_neg ‹_›];exact⟨ρ',hf,hQ⟩
  | _=>exact⟨ρ',hf,hQ⟩)
theorem Rb{c:Code}(h:B1 P n c (O2 Q) ρ w):B1 P n (.scope c) Q ρ w:=fun a ha=>
 wp_scope_straight (wp_mono (h a ha) fun e a' w' ⟨ρ',hf,hQ⟩=>by
  cases e with
  | goto l=>exact hQ
  | _=>exact⟨ρ',hf,hQ⟩)
theorem Te{c:Code}(I:Ac->AbJ->Prop)(μ:Ac->AbJ->Nat)(h0:I ρ w) 
  (round:∀ρ w,I ρ w->B1 P n c (Gp (fun ρ' w' =>I ρ' w' /\μ ρ' w' <μ ρ w) Q) ρ w):B1 P n (.loop c) Q ρ w:=by
 intro a ha;refine wp_loop (fun a w=>∃ρ,Fits n ρ a/\I ρ w) (fun a w=>μ (fun t=>a.tmps.getD t undef) w) ⟨ρ,ha,h0⟩ ?_;rintro a w ⟨ρ,hf,hI⟩;have he:(fun t=>a.tmps.getD t undef)=ρ:=funext hf.get;refine wp_mono (round ρ w hI a hf) fun e a' w' ⟨ρ',hf',hQ⟩=> ?_;cases e with
 | normal=>exact⟨⟨ρ',hf',hQ.1⟩,by rw[he,show(fun t=>a'.tmps.getD t undef)=ρ' from funext hf'.get];exact hQ.2⟩
 | _=>exact⟨ρ',hf',hQ⟩
/-! ### A region in the order of the text, operation by operation -/
def CC(P:Acg)(ops:Array Aca)(n:Nat)(Q:BG)(l:List Aca)(ρ:Ac)(w:AbJ):Prop:=
 ∀a,Fits n ρ a->wpList P ops (fun e a' w' =>∃ρ',Fits n ρ' a' /\Q e ρ' w') l a w
def XN(l:List Aca)(n:Nat):Bool:=l.all fun o=>match o.dst with | some d=>AdY d n | none=>true
theorem wt{id:Nat}{l:List Aca}(h:CC P l.toArray n Q l ρ w):B1 P n (.region id l.toArray false) Q ρ w:=fun a ha=>wp_region_lit (h a ha)
theorem oZ{ops:Array Aca}(h:Q .normal ρ w):CC P ops n Q [] ρ w:=fun _ ha=>⟨ρ,ha,h⟩
theorem oS{ops:Array Aca}{rest:List Aca}{dst:Option Tmp}{op:Op}{ty:AbQ}{pos:String}{af:Array AcI}(hd:(match dst with | some d=>AdY d n | none=>true)=true) 
  (h:Yk P (fun v w' =>CC P ops n Q rest (updO ρ dst v) w') ((execOp (Aa ρ) ⟨dst,op,ty,pos,af,none⟩).run P w)):CC P ops n Q (⟨dst,op,ty,pos,af,none⟩ :: rest) ρ w:=by
 intro a ha;have hdn:∀t,dst=some t->t<n:=fun t ht=>by subst ht;exact Ab2 hd
 refine wpList_plain rfl fun K hK=> ?_;unfold Aex AeL;rw[ha.eval];have hput:=fun v=>ha.put dst hdn v
 revert h
 generalize (execOp (Aa ρ) ⟨dst,op,ty,pos,af,none⟩).run P w=r
 intro h
 match r,h with
 | .ok (.value v) w',h=>exact hK _ _ (h _ (hput v))
 | .ok .skip w',h=>exact hK _ _ (h _ (hput undef))
 | .ok (.enter f args) w',h=>
  refine AeN h ?_;rintro e w'' ⟨v,rfl,hk⟩;exact hK _ _ (hk _ (hput v))
theorem oY{ops:Array Aca}{rest:List Aca}{dst:Option Tmp}{op:Op}{ty:AbQ}{pos:String}{af:Array AcI}{g:Nat}{want:Bool}{d:Tmp}(hd:(match dst with | some d=>AdY d n | none=>true)=true)(hg:(ops[g]?).bind (·.dst)=some d)(hv:ρ d = .bool want) 
  (h:Yk P (fun v w' =>CC P ops n Q rest (updO ρ dst v) w') ((execOp (Aa ρ) ⟨dst,op,ty,pos,af,some (g,want)⟩).run P w)):CC P ops n Q (⟨dst,op,ty,pos,af,some (g,want)⟩ :: rest) ρ w:=by
 intro a ha;have hdn:∀t,dst=some t->t<n:=fun t ht=>by subst ht;exact Ab2 hd
 have hw:Ac8 ⟨dst,op,ty,pos,af,some (g,want)⟩ (yielded ops a.tmps)=true:=by
  have:=H9 ((ha.get d).trans hv);simp only[Ac8,yielded,hg];simp[this]
 refine wpList_step fun K hK=> ?_;rw[if_pos hw];unfold Aex AeL;rw[ha.eval];have hput:=fun v=>ha.put dst hdn v
 revert h
 generalize (execOp (Aa ρ) ⟨dst,op,ty,pos,af,some (g,want)⟩).run P w=r
 intro h
 match r,h with
 | .ok (.value v) w',h=>exact hK _ _ (h _ (hput v))
 | .ok .skip w',h=>exact hK _ _ (h _ (hput undef))
 | .ok (.enter f args) w',h=>
  refine AeN h ?_;rintro e w'' ⟨v,rfl,hk⟩;exact hK _ _ (hk _ (hput v))
theorem oN{ops:Array Aca}{rest:List Aca}{o:Aca}{g:Nat}{want b:Bool}{d:Tmp}(hgd:o.guard=some (g,want))(hd:(match o.dst with | some d=>AdY d n | none=>true)=true)(hg:(ops[g]?).bind (·.dst)=some d)(hv:ρ d = .bool b)(hb:(b==want)=false) 
  (h:CC P ops n Q rest (updO ρ o.dst undef) w):CC P ops n Q (o :: rest) ρ w:=by
 intro a ha;have hdn:∀t,o.dst=some t->t<n:=fun t ht=>by rw[ht]at hd;exact Ab2 hd
 have hw:Ac8 o (yielded ops a.tmps)=false:=by
  have:=H9 ((ha.get d).trans hv);simp only[Ac8,hgd,yielded,hg]
  simpa [this] using hb
 refine wpList_step fun K hK=> ?_;rw[if_neg (by rw[hw];simp)];exact hK _ _ (h _ (ha.put o.dst hdn undef))
/-! ### A region that draws its order, by facts -/
def PF(l:List Aca)(Φ:Nat->Bu)(ρ:Ac)(n:Nat)(t:Tmp)(x:AbI)(w:AbJ):Prop:=
 match De l t n with
 | none=>x=ρ t
 | some k=>Φ k x w
def Fi(P:Acg)(l:List Aca)(C:Nat->AbJ->Prop)(R:Nat->AbJ->AbJ->Prop)(Φ:Nat->Bu)(ρ:Ac)(n:Nat)(o:Aca):Prop:=
 ∀(σ:Ac) (w:AbJ),C n w->(∀t∈o.looksAt l.toArray,PF l Φ ρ n t (σ t) w) ->
  if Bv l o σ=true then Yk P (fun v w' =>R n w w' /\Φ n v w') ((execOp (Aa σ) o).run P w)else Φ n undef w
def StepsF(P:Acg)(l:List Aca)(C:Nat->AbJ->Prop)(R:Nat->AbJ->AbJ->Prop)(Φ:Nat->Bu)(ρ:Ac):Nat->List Aca->Prop
 | _,[]=>True
 | n,o :: r=>Fi P l C R Φ ρ n o/\StepsF P l C R Φ ρ (n+1) r
theorem StepsF.ok{l:List Aca}{C:Nat->AbJ->Prop}{R:Nat->AbJ->AbJ->Prop}{Φ:Nat->Bu}{T:Array AbI}(hT:∀t,T.getD t undef=ρ t):∀(r:List Aca) (k:Nat),StepsF P l C R Φ ρ k r->StepsOk P l C R Φ T k r
 | [],_,_=>trivial
 | o :: r,k,h=>⟨fun σ w hC hl=>h.1 σ w hC (fun t ht=>by
  have:=hl t ht;unfold F2 at this;unfold PF;split
  ·rename_i e;rw[e]at this;rw[<-hT];exact this
  ·rename_i e;rw[e]at this;exact this),StepsF.ok hT r (k+1) h.2⟩
abbrev Abq:=@StepsF.ok
theorem Fj{T:Array AbI}(hT:∀t,T.getD t undef=ρ t)(ds:List Tmp)(hds:∀d∈ds,d<T.size)(u:Ac):∀t,(Df T ds u).getD t undef=if t∈ds then u t else ρ t:=fun t=>by
 by_cases ht:t<T.size
 ·rw[H6 u t ds T ht,<-hT]
 ·have h1:(Df T ds u).getD t undef=undef:=by
   rw[AcC,AeR (by rw[Dg];omega),Option.getD_none]
  have h2:T.getD t undef=undef:=by rw[AcC,AeR (by omega),Option.getD_none]
  rw[h1,if_neg (fun h=>ht (hds t h)),<-hT,h2]
theorem Gq{l:List Aca}{n:Nat}(hg:Cy l n=true)(ds:List Tmp)(hds:slotsW l=ds):∀d∈ds,d<n:=by
 intro d hd;rw[<-hds]at hd;unfold slotsW at hd;rw[Afn,Aef]at hd;obtain⟨o,ho,hod⟩:=hd;obtain⟨j,hj⟩:=List.getElem?_of_mem ho;exact(GU hg).room j o d hj hod
structure EndF (ds : List Tmp) (ρ ρ' : Ac) : Prop where
 old:∀t,ds.contains t=false->ρ' t=ρ t
theorem EndF.at_{ds:List Tmp}{ρ ρ' :Ac}(h:EndF ds ρ ρ'){t:Tmp}{v:AbI}(hv:ρ t=v)(ht:ds.contains t=false):ρ' t=v:=(h.old t ht).trans hv
theorem Hf{l:List Aca}(Φs:List Bu){id:Nat}(hm:P.follows .mixedOrders=true)(ds:List Tmp)(hg:Cy l n=true)(hds:slotsW l=ds)(hst:AllStab Ext Φs)(hs:StepsF P l (fun _=>Ext w) (fun _=>Ext) (AT Φs) ρ 0 l) 
  (hQ:∀(ρ' :Ac) w',Ext w w' ->EndF ds ρ ρ' ->Bg l (fun _=> []) (AT Φs) ρ' w' ds->Q .normal ρ' w'):B1 P n (.region id l.toArray true) Q ρ w:=by
 intro a ha;obtain⟨T,df⟩:=a;have hz:T.size=n:=ha.size;subst hz;refine Ms Φs hm T df hg ds hds hst (Abq ha.get l 0 hs) fun u w' hE hf=> ?_;have hw:=Fj ha.get ds (Gq hg ds hds) u;refine⟨fun t=>if t∈ds then u t else ρ t,⟨by rw[Dg],ha.defers,hw⟩,hQ _ w' hE ⟨fun t ht=>if_neg (by simpa using ht)⟩ ?_⟩;have key:∀es:List Tmp,(∀d∈es,d∈ds)->Bg l (fun _=> []) (AT Φs) u w' es->Bg l (fun _=> []) (AT Φs) (fun t=>if t∈ds then u t else ρ t) w' es:=by
  intro es
  induction es with
  | nil=>exact fun _ _=>trivial
  | cons d es ih=>
   intro hm h;refine⟨?_,ih (fun x hx=>hm x (by simp[hx])) h.2⟩;have:=h.1;simp only[if_pos (hm d (by simp))];exact this
 exact key ds (fun _ h=>h) hf
theorem La{l:List Aca}(k:Nat)(S:AbJ->AbJ->Prop)(Φs:List Bu){id:Nat}(hm:P.follows .mixedOrders=true)(ds:List Tmp)(hg:Cy l n=true)(hn:FJ l k=true)(hds:slotsW l=ds)(hSr:(l[k]?.bind (·.guard))=none)(hst:AllStab Ext Φs)(hsS:AllStab S Φs)(hs:StepsF P l (fun _=>Ext w) (fun m=>if m=k then S else Ext) (AT Φs) ρ 0 l) 
  (hQ:∀(ρ' :Ac) w1 w',Ext w w1->S w1 w' ->EndF ds ρ ρ' ->Bg l (fun _=> []) (AT Φs) ρ' w' ds->Q .normal ρ' w'):B1 P n (.region id l.toArray true) Q ρ w:=by
 intro a ha;obtain⟨T,df⟩:=a;have hz:T.size=n:=ha.size;subst hz;refine J7 k S Φs hm T df hg hn ds hds hSr hst hsS (Abq ha.get l 0 hs) fun u w1 w' hE hS hf=> ?_;have hw:=Fj ha.get ds (Gq hg ds hds) u;refine⟨fun t=>if t∈ds then u t else ρ t,⟨by rw[Dg],ha.defers,hw⟩,hQ _ w1 w' hE hS ⟨fun t ht=>if_neg (by simpa using ht)⟩ ?_⟩;have key:∀es:List Tmp,(∀d∈es,d∈ds)->Bg l (fun _=> []) (AT Φs) u w' es->Bg l (fun _=> []) (AT Φs) (fun t=>if t∈ds then u t else ρ t) w' es:=by
  intro es
  induction es with
  | nil=>exact fun _ _=>trivial
  | cons d es ih=>
   intro hm h;refine⟨?_,ih (fun x hx=>hm x (by simp[hx])) h.2⟩;have:=h.1;simp only[if_pos (hm d (by simp))];exact this
 exact key ds (fun _ h=>h) hf
def AllStabX(S:AbJ->AbJ->Prop)(ks:List Nat):Nat->List Bu->Prop
 | _,[]=>True
 | i,φ :: r=>(ks.contains i=true\/Stab S φ)/\AllStabX S ks (i+1) r
theorem AllStabX.get{S:AbJ->AbJ->Prop}{ks:List Nat}:∀(Φs:List Bu) (j:Nat),AllStabX S ks j Φs->∀i,j+i∉ks->Stab S (Φs.getD i (fun _ _=>True))
 | [],_,_,i,_=>by simpa using AbE
 | φ :: r,j,h,0,hi=>by
  rcases h.1 with h1 | h1
  ·exact absurd (by simpa using h1) hi
  ·simpa using h1
 | φ :: r,j,h,i+1,hi=>by
  simpa using AllStabX.get r (j+1) h.2 i (by rwa [show j+1+i=j+(i+1) by omega])
theorem MV{l:List Aca}(k:Nat)(Φs:List Bu){id:Nat}(hm:P.follows .mixedOrders=true)(ds:List Tmp)(hg:Cy l n=true)(hk:MQ l k=true)(hds:slotsW l=ds)(hgk:(l[k]?.bind (·.guard))=none)(hst:AllStab Ext Φs)(hsT:AllStab (fun _ _=>True) (Φs.take k)) 
  (hs:StepsF P l (fun m=>if m<=k then Ext w else fun _=>True) (fun m=>if m=k then fun _ _=>True else Ext) (AT Φs) ρ 0 l)
  (hQ:∀(ρ' :Ac) w',EndF ds ρ ρ' ->Bg l (fun _=> []) (AT Φs) ρ' w' ds->Q .normal ρ' w'):B1 P n (.region id l.toArray true) Q ρ w:=by
 intro a ha;obtain⟨T,df⟩:=a;have hz:T.size=n:=ha.size;subst hz;refine Mt k Φs hm T df hg hk ds hds hst hsT hgk (Abq ha.get l 0 hs) fun u w' hf=> ?_;have hw:=Fj ha.get ds (Gq hg ds hds) u;refine⟨fun t=>if t∈ds then u t else ρ t,⟨by rw[Dg],ha.defers,hw⟩,hQ _ w' ⟨fun t ht=>if_neg (by simpa using ht)⟩ ?_⟩;have key:∀es:List Tmp,(∀d∈es,d∈ds)->Bg l (fun _=> []) (AT Φs) u w' es->Bg l (fun _=> []) (AT Φs) (fun t=>if t∈ds then u t else ρ t) w' es:=by
  intro es
  induction es with
  | nil=>exact fun _ _=>trivial
  | cons d es ih=>
   intro hm h;refine⟨?_,ih (fun x hx=>hm x (by simp[hx])) h.2⟩;have:=h.1;simp only[if_pos (hm d (by simp))];exact this
 exact key ds (fun _ h=>h) hf
variable {l : List Aca} {Φ : Nat -> Bu}
theorem Aj{C:Nat->AbJ->Prop}{R:Nat->AbJ->AbJ->Prop}{k:Nat}{o:Aca}(hg:o.guard=none) 
  (h:∀σ w,C k w->(∀t∈o.looksAt l.toArray,PF l Φ ρ k t (σ t) w)->Yk P (fun v w' =>R k w w' /\Φ k v w') ((execOp (Aa σ) o).run P w)):Fi P l C R Φ ρ k o:=by
 intro σ w hC hl;have:Bv l o σ=true:=by unfold Bv;rw[hg]
 rw[if_pos this];exact h σ w hC hl
/-! ### A function is entered; it returns -/
structure Begun (args : List AbI) (ρ : Ac) : Prop where
 get:∀t,ρ t=args.getD t undef
def ResF(P:Acg)(ρ:Ac)(w:AbJ):ResultVar->AbI->Prop
 | .tmp t,v=>ρ t=v
 | .cell p ty,v=>∃a,ρ p = .pointer (some a)/\(loadVar ty a).run P w = .ok v w
def F5(P:Acg)(ρ:Ac)(w:AbJ):List ResultVar->List AbI->Prop
 | [],[]=>True
 | r :: rs,v :: vs=>ResF P ρ w r v/\F5 P ρ w rs vs
 | _,_=>False
def resOf(tmps:Array AbI):ResultVar->Sem AbI
 | .tmp t=>pure (tmps.getD t undef)
 | .cell a t=>do loadVar t (<-asAddr (tmps.getD a undef))
theorem Ia{ρ:Ac}{w:AbJ}{tmps:Array AbI}(ht:∀t,tmps.getD t undef=ρ t):∀(rs:List ResultVar) (vs:List AbI),F5 P ρ w rs vs->(rs.mapM (resOf tmps)).run P w=AgZ vs w
 | [],[],_=>by simp[Ab1]
 | [],_ :: _,h=>h.elim
 | _ :: _,[],h=>h.elim
 | r :: rs,v :: vs,h=>by
  have ih:=Ia ht rs vs h.2;have h1:(resOf tmps r).run P w = .ok v w:=by
   have h1:=h.1;cases r with
   | tmp t=>
    simp only[ResF]at h1;simp only[resOf,ht,h1,Ab1]
   | cell p ty=>
    obtain⟨a,ha,hl⟩:=h1;simp only[resOf,ht,ha,asAddr,AbY,Ab1,AbU,hl]
  rw[List.mapM_cons,AbY,h1];simp only[AbU,AbY,ih,Ab1]
def GW:List AbI->AbI
 | [v]=>v
 | vs=> .tuple vs.toArray
theorem Hg{fn:Func}{rs:List ResultVar}(hrs:fn.results=rs.toArray){tmps:Array AbI}(ht:∀t,tmps.getD t undef=ρ t){vs:List AbI}(h:F5 P ρ w rs vs):
  (results fn tmps).run P w = .ok (GW vs) w:=by
 have h1:=Ia ht rs vs h;have he:results fn tmps=(do let vs <-fn.results.mapM (resOf tmps);pure (if h:vs.size=1 then vs[0]else .tuple vs)):=by
  unfold results
  congr 1
 rw[he,hrs,List.mapM_toArray,AbY];have hm:((List.toArray <$> rs.mapM (resOf tmps)):Sem (Array AbI)).run P w = .ok vs.toArray w:=by
  show((rs.mapM (resOf tmps)).bind (fun x=>Sem.pure x.toArray)).run P w=_;rw[show(rs.mapM (resOf tmps)).bind (fun x=>Sem.pure x.toArray)=(do let x <-rs.mapM (resOf tmps);pure x.toArray)from rfl,AbY,h1];rfl
 rw[hm];simp only[AbU,Ab1]
 match vs with
 | []=>rfl
 | [v]=>rfl
 | _ :: _ :: _=>simp[GW]
theorem ResF.row{p:Tmp}{ty:AbQ}{g:Nat}{t:AbQ}{cs:Array AbI}{fr:Nat × Nat}{d:TypeDesc}(hp:ρ p = .pointer (some ⟨g,0,none⟩))(hg:w.heap[g]? =some (.cells cs t fr)) 
  (hu:P.underlying ty=some d) (hd:(match d with | .struct _ | .array _ _=>true | _=>false)=true) (hi:(P.info? ty).map (·.size)=some cs.size):ResF P ρ w (.cell p ty) (.agg cs):=
 ⟨_,hp,run_loadVar_row w g t ty cs fr d hg hu hd hi⟩
abbrev Aa9:=@ResF.row
end
variable {P : Acg}
abbrev U(x:UInt32):AbI:= .int .u32 (x.toNat:Int)
abbrev NI(n:Nat):AbI:= .int .i64 (n:Int)
abbrev B8(x:UInt8):AbI:= .int .u8 (x.toNat:Int)

theorem EL(n:Nat):IntKind.u32.wrap (n:Int)=((n%4294967296:Nat):Int):=by
 simp[Afo,Ac4,Aeb]
theorem O4(n:Nat):IntKind.u8.wrap (n:Int)=((n%256:Nat):Int):=by
 simp[Afo,Ac4,Aeb]
theorem I0(a:UInt32):BitVec.ofInt 32 (a.toNat:Int)=a.toBitVec:=by
 rw[Ae6];exact BitVec.ofNat_toNat 32 a.toBitVec |>.trans (by simp)
theorem EQ(t:AbQ)(a b:UInt32):Acm .add t (U a) (U b)=pure (U (a+b)):=by
 unfold Acm;simp only[ne_eq,not_true_eq_false,if_false,Afg];rw[<-Int.natCast_add,EL];simp[U,UInt32.toNat_add]
theorem ER(t:AbQ)(a b:UInt32):Acm .xor t (U a) (U b)=pure (U (a^^^b)):=by
 unfold Acm;simp only[ne_eq,not_true_eq_false,if_false,AfA,Ac4,I0];rw[EL,Ac5 (Aha _)];rfl
theorem J8(t:AbQ)(a b:UInt32):Acm .and t (U a) (U b)=pure (U (a&&&b)):=by
 unfold Acm;simp only[ne_eq,not_true_eq_false,if_false,AfA,Ac4,I0];rw[EL,Ac5 (Aha _)];rfl
theorem PG(t:AbQ)(a b:UInt32):Acm .or t (U a) (U b)=pure (U (a|||b)):=by
 unfold Acm;simp only[ne_eq,not_true_eq_false,if_false,AfA,Ac4,I0];rw[EL,Ac5 (Aha _)];rfl
theorem W7(a:UInt32):Go.Op.unary .xor (U a)=pure (U (~~~a)):=by
 unfold Go.Op.unary;have h:BitVec.ofInt 32 (IntKind.u32.max)=BitVec.allOnes 32:=by decide
 simp only[Aeb,Aeg,if_false,AfA,Ac4,I0,h];rw[EL,Ac5 (Aha _)];simp only[U];have h2:BitVec.allOnes 32^^^a.toBitVec = ~~~a.toBitVec:=BitVec.allOnes_xor;exact congrArg (fun z:BitVec 32=>(pure (Adm .u32 (z.toNat:Int)):Sem AbI)) h2
theorem MH(t:AbQ)(a:UInt32)(k:AcK)(n:Nat)(hn:n<32):Acm .shl t (U a) (.int k (n:Int))=pure (U (a<<<UInt32.ofNat n)):=by
 unfold Acm;simp only[AgH,Ac4];rw[if_neg (by omega),Ab0,AeO (by omega)];have:(a.toNat:Int)*2^n=((a.toNat*2^n:Nat):Int):=by simp
 rw[this,EL];simp only[U]
 congr 2
 simp[UInt32.toNat_shiftLeft,AgI,Ac5 (show n<4294967296 by omega),Ac5 hn]
theorem I1(t:AbQ)(a:UInt32)(k:AcK)(n:Nat)(hn:n<32):Acm .shr t (U a) (.int k (n:Int))=pure (U (a>>>UInt32.ofNat n)):=by
 unfold Acm;simp only[AgH,Ac4];rw[if_neg (by omega),Ab0,AeO (by omega)];have:(a.toNat:Int).fdiv (2^n)=((a.toNat/2^n:Nat):Int):=by
  rw[show(2^n:Int)=((2^n:Nat):Int) by simp,Aep _ (AeP _)];rfl
 rw[this];simp only[U]
 congr 2
 simp[UInt32.toNat_shiftRight,Nat.shiftRight_eq_div_pow,Ac5 (show n<4294967296 by omega),Ac5 hn]
theorem Vh{op:BinOp}{t ty2:AbQ}{x y:AbV}{d:Option Tmp}{ty:AbQ}{pos:String}{af:Array AcI}{gd:Option (Nat × Bool)}{ρ:AbV->AbI}{xv yv v:AbI}{w:AbJ} 
  (hx:ρ x=xv) (hy:ρ y=yv) (hne:(op matches .eql | .neq)=false) (hr:Acm op t xv yv=pure v):(execOp ρ ⟨d, .binOp op t x y ty2,ty,pos,af,gd⟩).run P w = .ok (.value v) w:=by
 have hg:eqGuard op t x y xv yv=pure ():=by
  unfold eqGuard;cases op <;> first | rfl | cases hne
 unfold execOp;simp only[hx,hy,hg,hr,AbY,Ab1,AbU]
theorem XR{K:AbI->AbJ->Prop}{op:BinOp}{t ty2:AbQ}{x y:AbV}{d:Option Tmp}{ty:AbQ}{pos:String}{af:Array AcI}{gd:Option (Nat × Bool)}{ρ:Tmp->AbI}{xv yv v:AbI}{w:AbJ} 
  (hx:Aa ρ x=xv) (hy:Aa ρ y=yv) (hne:(op matches .eql | .neq)=false) (hr:Acm op t xv yv=pure v) (hk:K v w):Yk P K ((execOp (Aa ρ) ⟨d, .binOp op t x y ty2,ty,pos,af,gd⟩).run P w):=
 Aa4 (Vh hx hy hne hr) hk
theorem Aax{K:AbI->AbJ->Prop}{t:AbQ}{x:AbV}{d:Option Tmp}{ty:AbQ}{pos:String}{af:Array AcI}{gd:Option (Nat × Bool)}{ρ:Tmp->AbI}{a:UInt32}{w:AbJ} 
  (hx:Aa ρ x=U a) (hk:K (U (~~~a)) w):Yk P K ((execOp (Aa ρ) ⟨d, .unOp .xor t x,ty,pos,af,gd⟩).run P w):=by
 refine Aa4 (v:=U (~~~a)) (w' :=w) ?_ hk;unfold execOp;simp only[hx,W7];simp
theorem Yk.wide{K:AbI->AbJ->Prop}{src dst:AbQ}{x:AbV}{d:Option Tmp}{ty:AbQ}{pos:String}{af:Array AcI}{gd:Option (Nat × Bool)}{ρ:Tmp->AbI}{a:UInt8}{w:AbJ} 
  (hs:P.underlying src=some (.int .u8)) (hd:P.underlying dst=some (.int .u32)) (hx:Aa ρ x=B8 a) (hk:K (U a.toUInt32) w):Yk P K ((execOp (Aa ρ) ⟨d, .convert src dst x,ty,pos,af,gd⟩).run P w):=by
 refine Aa4 (v:=U a.toUInt32) (w' :=w) ?_ hk;unfold execOp;simp only[hx,convert,AbY,run_underlying hs,run_underlying hd,AbU,Conv.intToInt,Ab1];rw[EL,Ac5 (by have:=a.toNat_lt;omega)];simp[U]
theorem Y1{K:AbI->AbJ->Prop}{src dst:AbQ}{x:AbV}{d:Option Tmp}{ty:AbQ}{pos:String}{af:Array AcI}{gd:Option (Nat × Bool)}{ρ:Tmp->AbI}{a:UInt32}{w:AbJ} 
  (hs:P.underlying src=some (.int .u32)) (hd:P.underlying dst=some (.int .u8)) (hx:Aa ρ x=U a) (hk:K (B8 a.toUInt8) w):Yk P K ((execOp (Aa ρ) ⟨d, .convert src dst x,ty,pos,af,gd⟩).run P w):=by
 refine Aa4 (v:=B8 a.toUInt8) (w' :=w) ?_ hk;unfold execOp;simp only[hx,convert,AbY,run_underlying hs,run_underlying hd,AbU,Conv.intToInt,Ab1];rw[O4];simp[B8]
theorem PH{t e:AbQ}{n:Nat}(ht:P.underlying t=some (.array n e))(he:∀w' :AbJ,(sizeOf e).run P w' = .ok 1 w'){x y:AbV}{d:Option Tmp}{ty:AbQ}{pos:String}{af:Array AcI}{gd:Option (Nat × Bool)}{ρ:AbV->AbI}{w:AbJ}{b o i:Nat}{k:AcK} 
  (hx:ρ x = .pointer (some ⟨b,o,none⟩)) (hy:ρ y = .int k (i:Int)) (hi:i<n):(execOp ρ ⟨d, .indexAddr t x y,ty,pos,af,gd⟩).run P w = .ok (.value (.pointer (some ⟨b,o+i,none⟩))) w:=by
 have hE:P.elem t=e:=by simp[Program.elem,ht]
 have hN:P.arrayLen t=n:=by simp[Program.arrayLen,ht]
 have hr:=run_indexAt_array (P:=P) w t ⟨b,o,none⟩ k (i:Int) (by rw[hE,hN];exact ht);rw[if_pos (by rw[hN];omega),hE,he]at hr;unfold execOp;simp only[hx,hy,AbY,hr,AbU,Ab1];simp[Ade]
theorem Aay{K:AbI->AbJ->Prop}{t e:AbQ}{n:Nat}(ht:P.underlying t=some (.array n e))(he:∀w' :AbJ,(sizeOf e).run P w' = .ok 1 w'){x y:AbV}{d:Option Tmp}{ty:AbQ}{pos:String}{af:Array AcI}{gd:Option (Nat × Bool)}{ρ:Tmp->AbI}{w:AbJ}{b o i:Nat}{k:AcK} 
  (hx:Aa ρ x = .pointer (some ⟨b,o,none⟩)) (hy:Aa ρ y = .int k (i:Int)) (hi:i<n) (hk:K (.pointer (some ⟨b,o+i,none⟩)) w):Yk P K ((execOp (Aa ρ) ⟨d, .indexAddr t x y,ty,pos,af,gd⟩).run P w):=
 Aa4 (PH ht he hx hy hi) hk
theorem Y4{K:AbI->AbJ->Prop}{t e:AbQ}(ht:P.underlying t=some (.slice e))(he:∀w' :AbJ,(sizeOf e).run P w' = .ok 1 w'){x y:AbV}{d:Option Tmp}{ty:AbQ}{pos:String}{af:Array AcI}{gd:Option (Nat × Bool)}{ρ:Tmp->AbI}{w:AbJ}{b o i n c:Nat}{k:AcK} 
  (hx:Aa ρ x = .slice (some ⟨b,o,none⟩) n c) (hy:Aa ρ y = .int k (i:Int)) (hi:i<n) (hk:K (.pointer (some ⟨b,o+i,none⟩)) w):Yk P K ((execOp (Aa ρ) ⟨d, .indexAddr t x y,ty,pos,af,gd⟩).run P w):=by
 refine Aa4 (v:= .pointer (some ⟨b,o+i,none⟩)) (w' :=w) ?_ hk;have hE:P.elem t=e:=by simp[Program.elem,ht]
 have hr:=run_indexAt_slice (P:=P) w t ⟨b,o,none⟩ n c k (i:Int) (by rw[hE];exact ht);rw[if_pos (by omega),hE,he]at hr;unfold execOp;simp only[hx,hy,AbY,hr,AbU,Ab1];simp[Ade]
theorem Rc{ty:AbQ}{desc:TypeDesc}(hu:P.underlying ty=some desc)(hd:(match desc with | .struct _ | .array _ _=>false | _=>true)=true){x:AbV}{d:Option Tmp}{tt:AbQ}{pos:String}{af:Array AcI}{gd:Option (Nat × Bool)}{ρ:AbV->AbI}{w:AbJ}{a:Addr}{v:AbI} 
  (hx:ρ x = .pointer (some a)) (hc:w.cell? a=some v):(execOp ρ ⟨d, .load ty x,tt,pos,af,gd⟩).run P w = .ok (.value v) w:=by
 have hl:(AhN ty (.pointer (some a))).run P w = .ok v w:=by
  have hagg:(isAgg ty).run P w = .ok false w:=by
   unfold isAgg;rw[AbY,run_underlying hu w];cases desc <;> simp_all
  simp[AhN,Ad9,loadVar,hagg,hc]
 unfold execOp;simp only[hx,AbY,hl,AbU,Ab1]
theorem XP{K:AbI->AbJ->Prop}{ty:AbQ}{desc:TypeDesc}(hu:P.underlying ty=some desc)(hd:(match desc with | .struct _ | .array _ _=>false | _=>true)=true){x:AbV}{d:Option Tmp}{tt:AbQ}{pos:String}{af:Array AcI}{gd:Option (Nat × Bool)}{ρ:Tmp->AbI}{w:AbJ}{a:Addr}{v:AbI} 
  (hx:Aa ρ x = .pointer (some a)) (hc:w.cell? a=some v) (hk:K v w):Yk P K ((execOp (Aa ρ) ⟨d, .load ty x,tt,pos,af,gd⟩).run P w):=
 Aa4 (Rc hu hd hx hc) hk
section
variable {P : Acg} {K : AbI -> AbJ -> Prop} {ρ : Ac} {w : AbJ} {d : Option Tmp} {ty : AbQ} {pos : String} {af : Array AcI} {gd : Option (Nat × Bool)}
theorem Yk.move{x:AbV}{v:AbI}(hx:Aa ρ x=v)(hk:K v w):Yk P K ((execOp (Aa ρ) ⟨d, .move x,ty,pos,af,gd⟩).run P w):=by
 subst hx;exact hk
abbrev Aa7:=@Yk.move
theorem Yk.assign{x:AbV}{v:AbI}(hx:Aa ρ x=v)(hk:K v w):Yk P K ((execOp (Aa ρ) ⟨d, .assign x,ty,pos,af,gd⟩).run P w):=by
 subst hx;exact hk
abbrev Abb:=@Yk.assign
theorem XY{c x y:AbV}{v:AbI}(hc:Aa ρ c = .bool true)(hx:Aa ρ x=v)(hk:K v w):Yk P K ((execOp (Aa ρ) ⟨d, .pick c x y,ty,pos,af,gd⟩).run P w):=by
 subst hx;unfold execOp;simp only[hc,asBool,AbY,Ab1,AbU,if_true];exact hk
theorem X2{c x y:AbV}{v:AbI}(hc:Aa ρ c = .bool false)(hx:Aa ρ y=v)(hk:K v w):Yk P K ((execOp (Aa ρ) ⟨d, .pick c x y,ty,pos,af,gd⟩).run P w):=by
 subst hx;unfold execOp;simp only[hc,asBool,AbY,Ab1,AbU,Aeg,if_false];exact hk
theorem Yk.nilCheck{x:AbV}{a:Addr}(hx:Aa ρ x = .pointer (some a))(hk:K (.pointer (some a)) w):Yk P K ((execOp (Aa ρ) ⟨d, .nilCheck x,ty,pos,af,gd⟩).run P w):=by
 unfold execOp;simp only[hx];exact hk
abbrev Aa1:=@Yk.nilCheck
def A4(P:Acg)(s:AbQ)(f off:Nat):Prop:=∀(b o:Nat) (w:AbJ),(Instr.fieldAt s (.pointer (some ⟨b,o,none⟩)) f).run P w = .ok (.pointer (some ⟨b,o+off,none⟩)) w
theorem Yk.fieldAt{s:AbQ}{f off b o:Nat}(hf:A4 P s f off){x:AbV}(hx:Aa ρ x = .pointer (some ⟨b,o,none⟩))(hk:K (.pointer (some ⟨b,o+off,none⟩)) w):Yk P K ((execOp (Aa ρ) ⟨d, .fieldAddr s x f,ty,pos,af,gd⟩).run P w):=by
 unfold execOp;simp only[hx,AbY,hf b o w,AbU,Ab1];exact hk
abbrev Aa0:=@Yk.fieldAt
theorem Yk.alloc{e:AbQ}{cs:Array AbI}(hz:∀(σ:AbV->AbI) (w:AbJ),(execOp σ ⟨d, .alloc e,ty,pos,af,gd⟩).run P w = .ok (.value (.pointer (some ⟨w.heap.size,0,none⟩))) (w.alloc (.cells cs e))) 
  (hk:∀n w',w.heap.size=n->w'.heap[n]? =some (.cells cs e (0,0))->Ext w w' ->w'.heap.size=n+1->K (.pointer (some ⟨n,0,none⟩)) w'):Yk P K ((execOp (Aa ρ) ⟨d, .alloc e,ty,pos,af,gd⟩).run P w):=by
 rw[hz];exact hk _ _ rfl (heap_alloc_new w _) ((AcB _ _).alloc (AbO _) _) (by simp)
abbrev Aa3:=@Yk.alloc
theorem Yk.box{e:AbQ}{x:AbV}{cs:Array AbI}(hx:Aa ρ x = .agg cs) 
  (hk:∀n w',w.heap.size=n->w'.heap[n]? =some (.cells cs e (0,0))->Ext w w' ->w'.heap.size=n+1->K (.pointer (some ⟨n,0,none⟩)) w'):Yk P K ((execOp (Aa ρ) ⟨d, .box e x,ty,pos,af,gd⟩).run P w):=by
 have hr:(execOp (Aa ρ) ⟨d, .box e x,ty,pos,af,gd⟩).run P w = .ok (.value (.pointer (some ⟨w.heap.size,0,none⟩))) (w.alloc (.cells cs e)):=by
  show((Instr.box e (Aa ρ x)).run P w).andThen (fun v w=>AgZ (Next.value v) w)=_;rw[hx];rfl
 rw[hr];exact hk _ _ rfl (heap_alloc_new w _) ((AcB _ _).alloc (AbO _) _) (by simp)
abbrev Abh:=@Yk.box
theorem XZ{t e:AbQ}(ht:P.underlying t=some (.slice e)){x:AbV}{l:Ah5}{w0:AbJ}(h:RB w0 (Aa ρ x) l)(hk:K (NI l.length) w):Yk P K ((execOp (Aa ρ) ⟨d, .call ⟨.builtin .len,#[x],#[t]⟩,ty,pos,af,gd⟩).run P w):=by
 obtain⟨h1,ao,cap,hv,h2,h3,h4,h5⟩:=h;refine Aa4 (v:=NI l.length) (w' :=w) ?_ hk;unfold execOp;simp[resolve,invoke,builtin,AgK,hv,run_underlying ht,goInt]
theorem YZ{t e:AbQ}(ht:P.underlying t=some (.slice e)){x:AbV}{ao:Option Addr}{n c:Nat}(hx:Aa ρ x = .slice ao n c)(hk:K (NI n) w):Yk P K ((execOp (Aa ρ) ⟨d, .call ⟨.builtin .len,#[x],#[t]⟩,ty,pos,af,gd⟩).run P w):=by
 refine Aa4 (v:=NI n) (w' :=w) ?_ hk;unfold execOp;simp[resolve,invoke,builtin,AgK,hx,run_underlying ht,goInt]
theorem Aae{t:AbQ}(ht:P.underlying t=some .string){x:AbV}{s:ByteArray}(hx:Aa ρ x = .string s)(hk:K (NI s.size) w):Yk P K ((execOp (Aa ρ) ⟨d, .call ⟨.builtin .len,#[x],#[t]⟩,ty,pos,af,gd⟩).run P w):=by
 refine Aa4 (v:=NI s.size) (w' :=w) ?_ hk;unfold execOp;simp[resolve,invoke,builtin,AgK,hx,run_underlying ht,goInt]
def PCell(v:AbI):Bu:=fun x w=>∃a,x = .pointer (some a)/\w.cell? a=some v
theorem Yd{t e:AbQ}(ht:P.underlying t=some (.slice e))(he:∀w' :AbJ,(sizeOf e).run P w' = .ok 1 w'){x y:AbV}{l:Ah5}(h:RB w (Aa ρ x) l){k:AcK}{i:Nat}(hy:Aa ρ y = .int k (i:Int))(hi:i<l.length) 
  (hk:∀v,PCell (B8 (l.getD i 0)) v w->K v w):Yk P K ((execOp (Aa ρ) ⟨d, .indexAddr t x y,ty,pos,af,gd⟩).run P w):=by
 obtain⟨b,off,cap,hv,h1,h2,h3,h4⟩:=h.open_ (by omega);exact Y4 ht he hv hy hi (hk _ ⟨_,rfl,h4 i hi⟩)
theorem X4{t:AbQ}{desc:TypeDesc}(hu:P.underlying t=some desc)(hd:(match desc with | .struct _ | .array _ _=>false | _=>true)=true){x:AbV}{v:AbI}(hx:PCell v (Aa ρ x) w)(hk:K v w):Yk P K ((execOp (Aa ρ) ⟨d, .load t x,ty,pos,af,gd⟩).run P w):=by
 obtain⟨a,ha,hc⟩:=hx;exact XP hu hd ha hc hk
theorem XQ{op:BinOp}{t ty2:AbQ}{x y:AbV}{k:AcK}{a b:Int}{v:AbI}(hx:Aa ρ x = .int k a)(hy:Aa ρ y = .int k b)(hr:Acm op t (.int k a) (.int k b)=pure v)(hk:K v w):Yk P K ((execOp (Aa ρ) ⟨d, .binOp op t x y ty2,ty,pos,af,gd⟩).run P w):=by
 have hg:eqGuard op t x y (.int k a) (.int k b)=pure ():=by
  unfold eqGuard;cases op <;> rfl
 refine Aa4 (v:=v) (w' :=w) ?_ hk;unfold execOp;simp only[hx,hy,hg,hr,AbY,Ab1,AbU]
theorem Yz{t:AbQ}{x:AbV}{b:Bool}(hx:Aa ρ x = .bool b)(hk:K (.bool (!b)) w):Yk P K ((execOp (Aa ρ) ⟨d, .unOp .not t x,ty,pos,af,gd⟩).run P w):=by
 refine Aa4 (v:= .bool (!b)) (w' :=w) ?_ hk;unfold execOp;simp[hx,Op.unary]
theorem Yk.run{o:Aca}{v:AbI}(hr:(execOp (Aa ρ) o).run P w = .ok (.value v) w)(hk:K v w):Yk P K ((execOp (Aa ρ) o).run P w):=by rw[hr];exact hk
abbrev Abo:=@Yk.run
theorem XO{src dst:AbQ}{ks kd:AcK}(hs:P.underlying src=some (.int ks))(hd:P.underlying dst=some (.int kd))(a:Int)(w:AbJ):(convert src dst (.int ks a)).run P w = .ok (.int kd (kd.wrap a)) w:=by
 simp only[convert,AbY,run_underlying hs,run_underlying hd,AbU,Conv.intToInt,Ab1]
theorem Yt{src dst:AbQ}{ks kd:AcK}(hs:P.underlying src=some (.int ks))(hd:P.underlying dst=some (.int kd)){x:AbV}{a b:Int}(hx:Aa ρ x = .int ks a)(hb:kd.wrap a=b)(hk:K (.int kd b) w):Yk P K ((execOp (Aa ρ) ⟨d, .convert src dst x,ty,pos,af,gd⟩).run P w):=by
 refine Aa4 (v:= .int kd b) (w' :=w) ?_ hk;have:=Go.Proofs.YtfpekahfdalfkaaGreatDoor.XO (P:=P) hs hd a w;unfold execOp;simp only[hx,AbY,this,AbU,Ab1,hb]
theorem Yh(s x:AbV){t tx e e' :AbQ}(base:Nat)(z:AbI)(ht:P.underlying t=some (.slice e))(hi:(P.info? e).map (fun i=>(i.zero,i.size,i.bytes))=some (some z,1,1))(hzs:z.cells.size=1)(hu:P.underlying tx=some (.slice e')) 
  (l m:Ah5) (hown:w.ownsRow base e 1 (Aa ρ s) l.length (AbK l)) (hsrc:RB w (Aa ρ x) m) (hb:l.length+m.length<=140737488355328) (hbase:base<=w.heap.size)
  (h:∀v' w',w'.ownsRow base e 1 v' (l++m).length (AbK (l++m))->Grew w w' (Aa ρ s) v' ->K v' w'):Yk P K ((execOp (Aa ρ) ⟨d, .call ⟨.builtin .append,#[s,x],#[t,tx]⟩,ty,pos,af,gd⟩).run P w):=
 Yk.append s x base e z 1 1 ht hi hzs l.length (AbK l) hown m.length (AbK m) (hsrc.src hu) (by unfold maxLen;omega) (by omega) hbase fun v' w' ho g=>h v' w' (by rw[AbP,AfV];exact ho) g
theorem AaK{t e:AbQ}{n:Nat}{parts:Array (Nat × AbV)}{cs:Array AbI}(hr:∀w:AbJ,(Acq t n (parts.map fun(i,x)=>(i,Aa ρ x))).run P w = .ok (.slice (some ⟨w.heap.size,0,none⟩) n n) (w.alloc (.cells cs e))) 
  (hk:∀b w',w.heap.size=b->w'.heap[b]? =some (.cells cs e (0,0))->Ext w w' ->w'.heap.size=b+1->K (.slice (some ⟨b,0,none⟩) n n) w'):Yk P K ((execOp (Aa ρ) ⟨d, .buildSlice t n parts,ty,pos,af,gd⟩).run P w):=by
 have hr' :(execOp (Aa ρ) ⟨d, .buildSlice t n parts,ty,pos,af,gd⟩).run P w = .ok (.value (.slice (some ⟨w.heap.size,0,none⟩) n n)) (w.alloc (.cells cs e)):=by
  unfold execOp;simp only[AbY,hr,AbU,Ab1]
 rw[hr'];exact hk _ _ rfl (heap_alloc_new w _) ((AcB _ _).alloc (AbO _) _) (by simp)
theorem Hh(w:AbJ)(e:AbQ)(l:Ah5)(hl:l.length<=9223372036854775807):NewB e w (w.alloc (.cells (AbK l).toArray e)) (.slice (some ⟨w.heap.size,0,none⟩) l.length l.length) l:=
 ⟨⟨by rw[AbZ];simp, .inr ⟨w.heap.size,l.length,(AbK l).toArray,rfl,AbO _,heap_alloc_new w _,AbO _,hl,by simp[AbZ],by rw[show l.length*1=(AbK l).length by rw[AbZ];simp];exact List.take_length⟩⟩,AhA _ _ none⟩
theorem Y6{f:AdB}(hp:Plain P f){args:Array AbV}{at_:Array AbQ}(vs:List AbI)(hv:args.toList.map (Aa ρ)=vs) 
  (h:Calls P f vs.toArray w fun e w' =>∃v,e = .returned v/\K v w'):Yk P K ((execOp (Aa ρ) ⟨d, .call ⟨.value (.func f),args,at_⟩,ty,pos,af,gd⟩).run P w):=by
 subst hv;have:=Yk.call (P:=P) (K:=K) hp (ρ:=ρ) (args:=args.toList) (at_:=at_) (dst:=d) (ty:=ty) (pos:=pos) (af:=af) (gd:=gd) (w:=w) h
 simpa using this
theorem Zv{f:AdB}(hp:Plain P f){at_:Array AbQ} 
  (h:Calls P f #[] w fun e w' =>∃v,e = .returned v/\K v w'):Yk P K ((execOp (Aa ρ) ⟨d, .call ⟨.value (.func f),#[],at_⟩,ty,pos,af,gd⟩).run P w):=
 Y6 hp [] (by simp) h
theorem XX{f:AdB}(hp:Plain P f){x0:AbV}{a:AbI}{at_:Array AbQ}(h0:Aa ρ x0=a) 
  (h:Calls P f #[a] w fun e w' =>∃v,e = .returned v/\K v w'):Yk P K ((execOp (Aa ρ) ⟨d, .call ⟨.value (.func f),#[x0],at_⟩,ty,pos,af,gd⟩).run P w):=
 Y6 hp [a] (by simp[h0]) h
theorem XS{f:AdB}(hp:Plain P f){x0 x1:AbV}{a b:AbI}{at_:Array AbQ}(h0:Aa ρ x0=a)(h1:Aa ρ x1=b) 
  (h:Calls P f #[a,b] w fun e w' =>∃v,e = .returned v/\K v w'):Yk P K ((execOp (Aa ρ) ⟨d, .call ⟨.value (.func f),#[x0,x1],at_⟩,ty,pos,af,gd⟩).run P w):=
 Y6 hp [a,b] (by simp[h0,h1]) h
theorem Yf{f:AdB}(hp:Plain P f){x0 x1 x2:AbV}{a b c:AbI}{at_:Array AbQ}(h0:Aa ρ x0=a)(h1:Aa ρ x1=b)(h2:Aa ρ x2=c) 
  (h:Calls P f #[a,b,c] w fun e w' =>∃v,e = .returned v/\K v w'):Yk P K ((execOp (Aa ρ) ⟨d, .call ⟨.value (.func f),#[x0,x1,x2],at_⟩,ty,pos,af,gd⟩).run P w):=
 Y6 hp [a,b,c] (by simp[h0,h1,h2]) h
theorem Yo{src dst e:AbQ}(hs:P.underlying src=some (.slice e))(he:P.underlying e=some (.int .u8))(hd:P.underlying dst=some .string){x:AbV}{l:Ah5} 
  (h:RB w (Aa ρ x) l) (hk:K (.string ⟨l.toArray⟩) w):Yk P K ((execOp (Aa ρ) ⟨d, .convert src dst x,ty,pos,af,gd⟩).run P w):=by
 have hr:=MS (P:=P) hs he hd h;refine Aa4 (v:= .string ⟨l.toArray⟩) (w' :=w) ?_ hk;unfold execOp;simp only[AbY,hr,AbU,Ab1]
theorem XV{v x:AbI}{l:Ah5}(h:RB w v l)(e:x=v):RB w x l:=by rw[e];exact h
theorem Yb{v x y:AbI}(h:PCell v x w)(e:y=x):PCell v y w:=by rw[e];exact h
theorem CV{v x:AbI}{b:Nat}{e:AbQ}{z n:Nat}{xs:List AbI}(h:w.ownsRow b e z v n xs)(e' :x=v):w.ownsRow b e z x n xs:=by rw[e'];exact h
theorem oM{Q:BG}{ops:Array Aca}{n:Nat}{rest:List Aca}{dst:Option Tmp}{x:AbV}{ty:AbQ}{pos:String}{af:Array AcI}(hd:(match dst with | some d=>AdY d n | none=>true)=true)(h:CC P ops n Q rest (updO ρ dst (Aa ρ x)) w):CC P ops n Q (⟨dst, .move x,ty,pos,af,none⟩ :: rest) ρ w:=oS hd (Aa7 rfl h)
theorem oA{Q:BG}{ops:Array Aca}{n:Nat}{rest:List Aca}{dst:Option Tmp}{x:AbV}{ty:AbQ}{pos:String}{af:Array AcI}(hd:(match dst with | some d=>AdY d n | none=>true)=true)(h:CC P ops n Q rest (updO ρ dst (Aa ρ x)) w):CC P ops n Q (⟨dst, .assign x,ty,pos,af,none⟩ :: rest) ρ w:=oS hd (Abb rfl h)
def J9(ρ:Ac):List (Nat × AbI)->Prop
 | []=>True
 | (t,v) :: r=>ρ t=v/\J9 ρ r
theorem EndF.hold{ds:List Tmp}{ρ ρ' :Ac}(h:EndF ds ρ ρ'):∀(l:List (Nat × AbI)) (_:J9 ρ l) (_:(l.all fun p=> !ds.contains p.1)=true),J9 ρ' l
 | [],_,_=>trivial
 | (t,v) :: r,hl,hd=>by
  rw[List.all_cons,AcQ]at hd;exact⟨h.at_ hl.1 (by simpa using hd.1),EndF.hold h r hl.2 hd.2⟩
theorem GX{Q:BG}{ops:Array Aca}{n:Nat}(l:List (Nat × AbI))(hF:J9 ρ l)(h:∀ρ',J9 ρ' l->Q .normal ρ' w):CC P ops n Q [] ρ w:=oZ (h ρ hF)
theorem Ao{w0 w w' :AbJ}{v v' :AbI}{b:Nat}{e:AbQ}{z n:Nat}{xs:List AbI}(h:Ext w0 w)(g:Grew w w' v v')(ho:w.ownsRow b e z v n xs)(hb:w0.heap.size<=b):Ext w0 w' :=
 Afh h g.by_ h.size (fun k hk=>AbM hb (ho.lt k hk).1)
theorem Ar{w w' :AbJ}{v v' :AbI}{g:Nat}{o:Obj}(h:w.heap[g]? =some o)(gr:Grew w w' v v')(hne:v.ownBlock≠some g):w'.heap[g]? =some o:=
 (gr.by_.block g (Ace.1 h).1 (fun e=>hne e.symm)).trans h
theorem EN{w:AbJ}{v:AbI}{b:Nat}{e:AbQ}{z n:Nat}{xs:List AbI}{g:Nat}(ho:w.ownsRow b e z v n xs)(hg:g<b):v.ownBlock≠some g:=fun h=>by have:=(ho.lt g h).1;omega
theorem A9{w:AbJ}{v:AbI}{b:Nat}{e:AbQ}{z n:Nat}{xs:List AbI}{g:Nat}(ho:w.ownsRow b e z v n xs)(hg:w.heap.size<=g):v.ownBlock≠some g:=fun h=>by have:=(ho.lt g h).2;omega
theorem Ap{w w' :AbJ}{v v' :AbI}{g:Nat}(gr:Grew w w' v v')(h:v.ownBlock≠some g)(hg:g<w.heap.size):v'.ownBlock≠some g:=fun h' =>by
 rcases gr.fresh g h' with h1 | h1
 ·exact h h1
 ·omega
theorem BK{w w' :AbJ}{v:AbI}{b:Nat}{e:AbQ}{z n:Nat}{xs:List AbI}{g:Nat}(ho:w.ownsRow b e z v n xs)(h:w.grownBy w' (some g))(hne:v.ownBlock≠some g):w'.ownsRow b e z v n xs:=
 ho.kept h (.inr hne)
theorem YW{t e:AbQ}(hr:∀(z:Int) (w:AbJ),(Acq t 1 #[(0, .int .u8 z)]).run P w = .ok (.slice (some ⟨w.heap.size,0,none⟩) 1 1) (w.alloc (.cells #[.int .u8 z] e))){x:AbV}{b:UInt8}(hx:Aa ρ x=B8 b) 
  (hk:∀v w',NewB e w w' v [b]->K v w'):Yk P K ((execOp (Aa ρ) ⟨d, .buildSlice t 1 #[(0,x)],ty,pos,af,gd⟩).run P w):=by
 have hr' :(execOp (Aa ρ) ⟨d, .buildSlice t 1 #[(0,x)],ty,pos,af,gd⟩).run P w = .ok (.value (.slice (some ⟨w.heap.size,0,none⟩) 1 1)) (w.alloc (.cells #[B8 b] e)):=by
  have:=hr (b.toNat:Int) w;unfold execOp;simp only[Acp,Aco,Acz,hx,AbY];rw[this];rfl
 rw[hr'];exact hk _ _ (Hh w e [b] (by simp))
theorem AaL{t e:AbQ}(hr:∀(w:AbJ),(Acq t 0 #[]).run P w = .ok (.slice (some ⟨w.heap.size,0,none⟩) 0 0) (w.alloc (.cells #[] e))) 
  (hk:∀v w',NewB e w w' v []->K v w'):Yk P K ((execOp (Aa ρ) ⟨d, .buildSlice t 0 #[],ty,pos,af,gd⟩).run P w):=by
 have hr' :(execOp (Aa ρ) ⟨d, .buildSlice t 0 #[],ty,pos,af,gd⟩).run P w = .ok (.value (.slice (some ⟨w.heap.size,0,none⟩) 0 0)) (w.alloc (.cells #[] e)):=by
  unfold execOp;simp only[Acp,Acz,AbY,hr,AbU,Ab1]
 rw[hr'];exact hk _ _ (Hh w e [] (by decide))
theorem ZV{t e:AbQ}{n:Nat}{parts:Array (Nat × AbV)}(l:Ah5)(hl:l.length<=9223372036854775807)(hr:∀(σ:Ac) (w:AbJ),(execOp (Aa σ) ⟨d, .buildSlice t n parts,ty,pos,af,gd⟩).run P w = .ok (.value (.slice (some ⟨w.heap.size,0,none⟩) l.length l.length)) (w.alloc (.cells (AbK l).toArray e))) 
  (hk:∀v w',NewB e w w' v l->K v w'):Yk P K ((execOp (Aa ρ) ⟨d, .buildSlice t n parts,ty,pos,af,gd⟩).run P w):=by
 rw[hr];exact hk _ _ (Hh w e l hl)
theorem I2{l:Ah5}{i:Nat}(hi:i<l.length):(AbK l)[i]? =some (B8 (l.getD i 0)):=by simp[AbK,hi]
theorem Bb{l:List UInt32}{i:Nat}(hi:i<l.length):(l.map fun x=>U x)[i]? =some (U (l.getD i 0)):=by simp[hi]
theorem Mu(l:Ah5)(i:Nat)(x:UInt8):(AbK l).set i (B8 x)=AbK (l.set i x):=by simp[AbK,AgL]
theorem cellAt{b:Nat}{l:List AbI}{t:AbQ}{fr:Nat × Nat}(h:w.heap[b]? =some (.cells l.toArray t fr)){i:Nat}{v:AbI}(hi:l[i]? =some v):w.cell? ⟨b,i,none⟩=some v:=by
 simp[Ad6,h,hi]
theorem X5{t' :AbQ}{x y:AbV}{g i:Nat}{cs:List AbI}{t:AbQ}{v:AbI}(hx:Aa ρ x = .pointer (some ⟨g,i,none⟩))(hy:Aa ρ y=v)(hg:w.heap[g]? =some (.cells cs.toArray t (0,0)))(hi:i<cs.length)(hinfo:(P.info? t').map (·.size)=some 1)(hv:v.cells = #[v])(h1:v.oneCell' =true) 
  (hk:∀w',w'.heap[g]? =some (.cells (cs.set i v).toArray t (0,0))->w.grownBy w' (some g)->w'.heap.size=w.heap.size->K undef w'):Yk P K ((execOp (Aa ρ) ⟨d, .store t' x y,ty,pos,af,gd⟩).run P w):=by
 have hst:=run_storeCells_at P g i t [v] 0 cs.toArray w hg (by simp;omega) (by simpa using h1);have e:(cs.toArray.toList.take (i+0)++ [v]++cs.toArray.toList.drop (i+0+ [v].length))=cs.set i v:=by
  rw[List.set_eq_take_append_cons_drop,if_pos hi];simp
 rw[e]at hst;have hr:(Aeo t' (.pointer (some ⟨g,i,none⟩)) v).run P w = .ok () (w.setRow g (cs.set i v).toArray):=by
  cases hq:P.info? t' with
  | none=>simp[hq]at hinfo
  | some q=>
   have hs:q.size=1:=by simp[hq]at hinfo;omega
   simp[Aeo,Ad9,storeVar,sizeOf,typeInfo,hq,hv,hs,hst]
 unfold execOp;simp only[hx,hy,hr,AbY,AbU,Ab1];exact hk _ (setRow_heap w g cs.toArray _ t (0,0) hg) ⟨rfl,rfl,rfl,by simp,fun k _ hk=>setRow_other w g k _ (fun e=>hk (by rw[e]))⟩ (by simp)
theorem YS{t' :AbQ}{x y:AbV}{g i:Nat}{l:Ah5}{t:AbQ}{v:UInt8}(hx:Aa ρ x = .pointer (some ⟨g,i,none⟩))(hy:Aa ρ y=B8 v)(hg:w.heap[g]? =some (.cells (AbK l).toArray t (0,0)))(hi:i<l.length)(hinfo:(P.info? t').map (·.size)=some 1) 
  (hk:∀w',w'.heap[g]? =some (.cells (AbK (l.set i v)).toArray t (0,0))->w.grownBy w' (some g)->w'.heap.size=w.heap.size->K undef w'):Yk P K ((execOp (Aa ρ) ⟨d, .store t' x y,ty,pos,af,gd⟩).run P w):=
 X5 hx hy hg (by rw[AbZ];exact hi) hinfo rfl rfl fun w' h1 h2 h3=>hk w' (by rw[<-Mu];exact h1) h2 h3
theorem Y2{t' :AbQ}{x y:AbV}{g i:Nat}{l:List UInt32}{t:AbQ}{v:UInt32}(hx:Aa ρ x = .pointer (some ⟨g,i,none⟩))(hy:Aa ρ y=U v)(hg:w.heap[g]? =some (.cells (l.map fun x=>U x).toArray t (0,0)))(hi:i<l.length)(hinfo:(P.info? t').map (·.size)=some 1) 
  (hk:∀w',w'.heap[g]? =some (.cells ((l.set i v).map fun x=>U x).toArray t (0,0))->w.grownBy w' (some g)->w'.heap.size=w.heap.size->K undef w'):Yk P K ((execOp (Aa ρ) ⟨d, .store t' x y,ty,pos,af,gd⟩).run P w):=
 X5 hx hy hg (by simpa using hi) hinfo rfl rfl fun w' h1 h2 h3=>hk w' (by rw[AgL];exact h1) h2 h3
theorem XT{t' :AbQ}{x y:AbV}{g:Nat}{cells cur:Array AbI}{t:AbQ}(hx:Aa ρ x = .pointer (some ⟨g,0,none⟩))(hy:Aa ρ y = .agg cells)(hg:w.heap[g]? =some (.cells cur t (0,0)))(hs:cells.size=cur.size)(hi:(P.info? t').map (·.size)=some cells.size)(h1:∀v∈cells.toList,v.oneCell' =true) 
  (hk:∀w',w'.heap[g]? =some (.cells cells t (0,0))->w.grownBy w' (some g)->w'.heap.size=w.heap.size->K undef w'):Yk P K ((execOp (Aa ρ) ⟨d, .store t' x y,ty,pos,af,gd⟩).run P w):=by
 have hr:=Gn (P:=P) w g t' cells cur t hg hs hi h1;unfold execOp;simp only[hx,hy,hr,AbY,AbU,Ab1];exact hk _ (setRow_heap w g cur cells t (0,0) hg) ⟨rfl,rfl,rfl,by simp,fun k _ hk=>setRow_other w g k _ (fun e=>hk (by rw[e]))⟩ (by simp)
theorem XU{t' :AbQ}{x:AbV}{g:Nat}{cs:Array AbI}{t:AbQ}{fr:Nat × Nat}{de:TypeDesc}(hx:Aa ρ x = .pointer (some ⟨g,0,none⟩))(hg:w.heap[g]? =some (.cells cs t fr))(hu:P.underlying t' =some de)(hd:(match de with | .struct _ | .array _ _=>true | _=>false)=true)(hi:(P.info? t').map (·.size)=some cs.size) 
  (hk:K (.agg cs) w):Yk P K ((execOp (Aa ρ) ⟨d, .load t' x,ty,pos,af,gd⟩).run P w):=by
 have hr:=run_loadVar_row w g t t' cs fr de hg hu hd hi;refine Aa4 (v:= .agg cs) (w' :=w) ?_ hk;unfold execOp;simp[hx,AhN,Ad9,hr]
def BF:AbI->Nat
 | .slice _ n _=>n
 | _=>0
theorem ES{b:Nat}{e:AbQ}{z n:Nat}{xs:List AbI}{v:AbI}(h:w.ownsRow b e z v n xs):BF v=n:=by
 rcases h.2 with ⟨rfl,h0⟩ | ⟨g,cap,cur,rfl,-⟩
 ·exact h0.symm
 ·rfl
theorem RB.sliceLen{v:AbI}{l:Ah5}(h:RB w v l):BF v=l.length:=by
 obtain⟨-,ao,cap,rfl,-⟩:=h;rfl
theorem Dj{b:Nat}{e:AbQ}{v:AbI}{l l' :Ah5}(h:w.ownsRow b e 1 v l.length (AbK l))(e' :l=l'):w.ownsRow b e 1 v l'.length (AbK l'):=by rw[<-e'];exact h
theorem AW{g:Nat}{l l' :List AbI}{t:AbQ}{fr:Nat × Nat}(h:w.heap[g]? =some (.cells l.toArray t fr))(e:l=l'):w.heap[g]? =some (.cells l'.toArray t fr):=by rw[<-e];exact h
theorem Yn{t e:AbQ}(ht:P.underlying t=some (.slice e))(he:∀w' :AbJ,(sizeOf e).run P w' = .ok 1 w'){x lo:AbV}{v:AbI}{xs:Ah5}(hx:Aa ρ x=v)(h:RB w v xs){k:AcK}{l:Nat}(hlo:Aa ρ lo = .int k (l:Int))(hl:l<=xs.length) 
  (hk:∀v',RB w v' (xs.drop l)->v'.ownBlock=v.ownBlock->K v' w):Yk P K ((execOp (Aa ρ) ⟨d, .slice t x (some lo) none none,ty,pos,af,gd⟩).run P w):=by
 obtain⟨ao,c,⟨hrun,hb⟩,hR⟩:=Dh ht he h (some (.int k l)) none l xs.length hl (AbO _) (.inr ⟨k,rfl⟩) (.inl ⟨rfl,rfl⟩);have hR' :=YY (AbO _) hR;rw[List.take_of_length_le (by rw[Ab6];exact AbO _)]at hR';refine Aa4 (v:= .slice ao (xs.length-l) c) (w' :=w) ?_ (hk _ hR' hb);unfold execOp;simp only[hx,hlo,Ac3,AdE,hrun,AbY,Ab1,AbU]
theorem YB{t e:AbQ}(ht:P.underlying t=some (.slice e))(he:∀w' :AbJ,(sizeOf e).run P w' = .ok 1 w'){x hi:AbV}{v:AbI}{xs:Ah5}(hx:Aa ρ x=v)(h:RB w v xs){k:AcK}{n:Nat}(hhi:Aa ρ hi = .int k (n:Int))(hn:n<=xs.length) 
  (hk:∀v',RB w v' (xs.take n)->v'.ownBlock=v.ownBlock->K v' w):Yk P K ((execOp (Aa ρ) ⟨d, .slice t x none (some hi) none,ty,pos,af,gd⟩).run P w):=by
 obtain⟨ao,c,⟨hrun,hb⟩,hR⟩:=Dh ht he h none (some (.int k n)) 0 n (Nat.zero_le _) hn (.inl ⟨rfl,rfl⟩) (.inr ⟨k,rfl⟩);have hR' :=YY hn hR;rw[List.drop_zero,Nat.sub_zero]at hR';refine Aa4 (v:= .slice ao (n-0) c) (w' :=w) ?_ (hk _ hR' hb);unfold execOp;simp only[hx,hhi,Ac3,AdE,hrun,AbY,Ab1,AbU]
theorem YO{t e:AbQ}(ht:P.underlying t=some (.slice e))(he:∀w' :AbJ,(sizeOf e).run P w' = .ok 1 w'){x lo hi:AbV}{v:AbI}{xs:Ah5}(hx:Aa ρ x=v)(h:RB w v xs){k k' :AcK}{l n:Nat}(hlo:Aa ρ lo = .int k (l:Int))(hhi:Aa ρ hi = .int k' (n:Int))(hl:l<=n)(hn:n<=xs.length) 
  (hk:∀v',RB w v' ((xs.drop l).take (n-l))->v'.ownBlock=v.ownBlock->K v' w):Yk P K ((execOp (Aa ρ) ⟨d, .slice t x (some lo) (some hi) none,ty,pos,af,gd⟩).run P w):=by
 obtain⟨ao,c,⟨hrun,hb⟩,hR⟩:=Dh ht he h (some (.int k l)) (some (.int k' n)) l n hl hn (.inr ⟨k,rfl⟩) (.inr ⟨k',rfl⟩);refine Aa4 (v:= .slice ao (n-l) c) (w' :=w) ?_ (hk _ (YY hn hR) hb);unfold execOp;simp only[hx,hlo,hhi,Ac3,AdE,hrun,AbY,Ab1,AbU]
theorem Z1{t' :AbQ}{x y:AbV}{g:Nat}{cells:Array AbI}{cur:List AbI}{t:AbQ}(hx:Aa ρ x = .pointer (some ⟨g,0,none⟩))(hy:Aa ρ y = .agg cells)(hg:w.heap[g]? =some (.cells cur.toArray t (0,0)))(hs:cells.size<=cur.length)(hi:(P.info? t').map (·.size)=some cells.size)(h1:∀v∈cells.toList,v.oneCell' =true) 
  (hk:∀w',w'.heap[g]? =some (.cells (cells.toList++cur.drop cells.size).toArray t (0,0))->w.grownBy w' (some g)->w'.heap.size=w.heap.size->K undef w'):Yk P K ((execOp (Aa ρ) ⟨d, .store t' x y,ty,pos,af,gd⟩).run P w):=by
 have hst:=run_storeCells_at P g 0 t cells.toList 0 cur.toArray w hg (by simpa using hs) h1;have e:(cur.toArray.toList.take (0+0)++cells.toList++cur.toArray.toList.drop (0+0+cells.toList.length)).toArray=(cells.toList++cur.drop cells.size).toArray:=by simp
 rw[e]at hst;have hr:(Aeo t' (.pointer (some ⟨g,0,none⟩)) (.agg cells)).run P w = .ok () (w.setRow g (cells.toList++cur.drop cells.size).toArray):=by
  cases hq:P.info? t' with
  | none=>simp[hq]at hi
  | some i=>
   have hsz:cells.size=i.size:=by simp[hq]at hi;omega
   simp[Aeo,Ad9,storeVar,sizeOf,typeInfo,hq,Aff,hsz,hst]
 unfold execOp;simp only[hx,hy,hr,AbY,AbU,Ab1];exact hk _ (setRow_heap w g cur.toArray _ t (0,0) hg) ⟨rfl,rfl,rfl,by simp,fun k _ hk=>setRow_other w g k _ (fun e=>hk (by rw[e]))⟩ (by simp)
theorem Ym{t' :AbQ}{x:AbV}{g o:Nat}{cs:List AbI}{de:TypeDesc}(hx:Aa ρ x = .pointer (some ⟨g,o,none⟩))(hc:w.rangeAt g o cs)(hu:P.underlying t' =some de)(hd:de.isRow=true)(hi:(P.info? t').map (·.size)=some cs.length) 
  (hk:K (.agg cs.toArray) w):Yk P K ((execOp (Aa ρ) ⟨d, .load t' x,ty,pos,af,gd⟩).run P w):=by
 refine Aa4 (v:= .agg cs.toArray) (w' :=w) ?_ hk;simp only[execOp,hx,AbY,run_loadAt_mid w g o t' cs de hc hu hd hi,AbU,Ab1]
section
variable {Q : BG} {K : Ac -> AbJ -> Prop}
theorem tN(h:K ρ w):Gp K Q .normal ρ w:=h
theorem Ib(h:Q .ret ρ w):Gp K Q .ret ρ w:=h
theorem MW{i:Nat}(h:Q .normal ρ w):EJ i Q (.exit i) ρ w:=by
 simp only[EJ,if_true];exact h
theorem Mv{i j:Nat}(hij:(Aea j i)=false)(h:Q (.exit j) ρ w):EJ i Q (.exit j) ρ w:=by
 simp only[EJ];rw[if_neg (fun e=>by subst e;simp at hij)];exact h
end
theorem Zr{xType e:AbQ}{n:Nat}(ht:P.underlying xType=some (.array n e)){de:TypeDesc}(he:P.underlying e=some de)(hd:(match de with | .struct _ | .array _ _=>false | _=>true)=true)(hs:∀w' :AbJ,(sizeOf e).run P w' = .ok 1 w'){x y:AbV}{cs:List AbI}{v:AbI}{i:Nat}{k:AcK} 
  (hx:Aa ρ x = .agg cs.toArray) (hy:Aa ρ y = .int k (i:Int)) (hi:i<n) (hv:cs[i]? =some v) (hk:K v w):Yk P K ((execOp (Aa ρ) ⟨d, .index xType x y,ty,pos,af,gd⟩).run P w):=by
 have hagg:(isAgg e).run P w = .ok false w:=by
  unfold isAgg;rw[AbY,run_underlying he w];cases de <;> simp_all
 refine Aa4 (v:=v) (w' :=w) ?_ hk;unfold execOp;simp only[hx,hy,Instr.index,asIntOf,AbY,Ab1,AbU,run_underlying ht];rw[if_pos (by omega)];simp[hs,part,hagg,hv]
theorem ZW{xType e:AbQ}{n:Nat}(ht:P.underlying xType=some (.array n e)){de:TypeDesc}(he:P.underlying e=some de)(hd:(match de with | .struct _ | .array _ _=>false | _=>true)=true)(hs:∀w' :AbJ,(sizeOf e).run P w' = .ok 1 w'){x y:AbV}{l:List UInt32}{i:Nat}{k:AcK} 
  (hx:Aa ρ x = .agg (l.map fun x=>U x).toArray) (hy:Aa ρ y = .int k (i:Int)) (hi:i<n) (hl:l.length=n) (hk:K (U (l.getD i 0)) w):Yk P K ((execOp (Aa ρ) ⟨d, .index xType x y,ty,pos,af,gd⟩).run P w):=
 Zr ht he hd hs hx hy hi (Bb (by omega)) hk
theorem AaM{xType e:AbQ}{n:Nat}(ht:P.underlying xType=some (.array n e)){de:TypeDesc}(he:P.underlying e=some de)(hd:(match de with | .struct _ | .array _ _=>false | _=>true)=true)(hs:∀w' :AbJ,(sizeOf e).run P w' = .ok 1 w'){x y:AbV}{l:Ah5}{i:Nat}{k:AcK} 
  (hx:Aa ρ x = .agg (AbK l).toArray) (hy:Aa ρ y = .int k (i:Int)) (hi:i<n) (hl:l.length=n) (hk:K (B8 (l.getD i 0)) w):Yk P K ((execOp (Aa ρ) ⟨d, .index xType x y,ty,pos,af,gd⟩).run P w):=
 Zr ht he hd hs hx hy hi (I2 (by omega)) hk
theorem Fs{t:AbQ}(h:(match P.underlying t with | some (.struct _)=>true | _=>false)=true):∃fs,P.underlying t=some (.struct fs):=by
 split at h
 ·exact⟨_,‹_›⟩
 ·cases h
theorem X3{t e:AbQ}{n:Nat}(ht:P.underlying t=some (.array n e))(he:∀w' :AbJ,(sizeOf e).run P w' = .ok 1 w'){x y:AbV}{b i:Nat}{k:AcK} 
  (hx:Aa ρ x = .pointer (some ⟨b,0,none⟩)) (hy:Aa ρ y = .int k (i:Int)) (hi:i<n) (hk:K (.pointer (some ⟨b,i,none⟩)) w):Yk P K ((execOp (Aa ρ) ⟨d, .indexAddr t x y,ty,pos,af,gd⟩).run P w):=
 Aay ht he hx hy hi (by rw[Ac2];exact hk)
theorem Ka{t e:AbQ}(ht:P.underlying t=some (.pointer e))(a:Option Addr)(w:AbJ):(Afq t (.pointer a) (.pointer none)).run P w = .ok a.isNone w:=by
 unfold Afq;rw[show Op.maxDepth=(Op.maxDepth-1)+1 from rfl];cases a <;> simp[Aho,run_underlying ht,AbY,Ab1]
theorem Ye{t e ty2:AbQ}(ht:P.underlying t=some (.pointer e)){x:AbV}{a:Option Addr}(hx:Aa ρ x = .pointer a)(hk:K (.bool a.isNone) w):Yk P K ((execOp (Aa ρ) ⟨d, .binOp .eql t x (.const (.pointer none)) ty2,ty,pos,af,gd⟩).run P w):=by
 have hy:Aa ρ (.const (.pointer none)) = .pointer none:=rfl;refine Aa4 (v:= .bool a.isNone) (w' :=w) ?_ hk;have hr:=Ka ht a w;unfold execOp;simp only[hx,hy];cases a <;> simp[eqGuard,Acm,hr]
theorem Aaf{t e ty2:AbQ}(ht:P.underlying t=some (.pointer e)){x:AbV}{a:Option Addr}(hx:Aa ρ x = .pointer a)(hk:K (.bool !a.isNone) w):Yk P K ((execOp (Aa ρ) ⟨d, .binOp .neq t x (.const (.pointer none)) ty2,ty,pos,af,gd⟩).run P w):=by
 have hy:Aa ρ (.const (.pointer none)) = .pointer none:=rfl;refine Aa4 (v:= .bool !a.isNone) (w' :=w) ?_ hk;have hr:=Ka ht a w;unfold execOp;simp only[hx,hy];cases a <;> simp[eqGuard,Acm,hr]
theorem Ab{w0 w1 w2:AbJ}{g:Nat}(h0:Ext w0 w1)(h:w1.grownBy w2 (some g))(hg:w0.heap.size<=g):Ext w0 w2:=
 Afh h0 h h0.size (fun k hk=>by cases hk;exact hg)
end
/-! ### Numbers that are not below 0 -/
section
theorem AK(t:AbQ)(k:AcK)(a b:Nat):Acm .lss t (.int k (a:Int)) (.int k (b:Int))=pure (.bool (decide (a<b))):=by
 simp[Acm,Aeh]
theorem Dw(t:AbQ)(k:AcK)(a b:Nat):Acm .leq t (.int k (a:Int)) (.int k (b:Int))=pure (.bool (decide (a<=b))):=by
 simp[Acm,Aeh]
theorem Bh(t:AbQ)(k:AcK)(a b:Nat):Acm .gtr t (.int k (a:Int)) (.int k (b:Int))=pure (.bool (decide (b<a))):=by
 simp[Acm,Aeh]
theorem Ek(t:AbQ)(k:AcK)(a b:Nat):Acm .geq t (.int k (a:Int)) (.int k (b:Int))=pure (.bool (decide (b<=a))):=by
 simp[Acm,Aeh]
theorem AI(t:AbQ)(k:AcK)(a b:Nat):Acm .eql t (.int k (a:Int)) (.int k (b:Int))=pure (.bool (decide (a=b))):=by
 have:((a:Int)==(b:Int))=decide (a=b):=by rw[Ael];simp;omega
 simp[Acm,Aeh,this]
theorem AV(t:AbQ)(k:AcK)(a b:Nat):Acm .neq t (.int k (a:Int)) (.int k (b:Int))=pure (.bool (decide (a≠b))):=by
 have:((a:Int) != (b:Int))=decide (a≠b):=by rw[Ael];simp;omega
 simp[Acm,Aeh,this]
theorem Fk(t:AbQ)(k:AcK)(a b:Int):Acm .lss t (.int k a) (.int k b)=pure (.bool (decide (a<b))):=by simp[Acm,Aeh]
theorem W8(t:AbQ)(k:AcK)(a b:Int):Acm .leq t (.int k a) (.int k b)=pure (.bool (decide (a<=b))):=by simp[Acm,Aeh]
theorem Kb(t:AbQ)(k:AcK)(a b:Int):Acm .gtr t (.int k a) (.int k b)=pure (.bool (decide (b<a))):=by simp[Acm,Aeh]
theorem Kc(t:AbQ)(k:AcK)(a b:Int):Acm .geq t (.int k a) (.int k b)=pure (.bool (decide (b<=a))):=by simp[Acm,Aeh]
theorem W9(t:AbQ)(k:AcK)(a b:Int):Acm .eql t (.int k a) (.int k b)=pure (.bool (decide (a=b))):=by
 have:(a==b)=decide (a=b):=by rw[Ael];simp
 simp[Acm,Aeh,this]
theorem Xa(t:AbQ)(k:AcK)(a b:Int):Acm .neq t (.int k a) (.int k b)=pure (.bool (decide (a≠b))):=by
 have:(a != b)=decide (a≠b):=by rw[Ael];simp
 simp[Acm,Aeh,this]
theorem C4(n:Nat)(h:n<9223372036854775808):IntKind.i64.wrap (n:Int)=(n:Int):=by
 simp only[Afo,Ac4,Aeb];have:(n:Int)%(2^64:Int)=n:=by omega
 simp only[this];rw[if_neg];simp;omega
theorem Ah(t:AbQ)(a b:Nat)(h:a+b<9223372036854775808):Acm .add t (.int .i64 (a:Int)) (.int .i64 (b:Int))=pure (.int .i64 ((a+b:Nat):Int)):=by
 unfold Acm;simp only[ne_eq,not_true_eq_false,if_false,Afg];rw[<-Int.natCast_add,C4 _ h]
theorem Ci(t:AbQ)(a b:Nat)(h:a*b<9223372036854775808):Acm .mul t (.int .i64 (a:Int)) (.int .i64 (b:Int))=pure (.int .i64 ((a*b:Nat):Int)):=by
 unfold Acm;simp only[ne_eq,not_true_eq_false,if_false,Afg];rw[<-Ag0,C4 _ h]
theorem BB(t:AbQ)(a b:Nat)(h:a<9223372036854775808)(hb:b<=a):Acm .sub t (.int .i64 (a:Int)) (.int .i64 (b:Int))=pure (.int .i64 ((a-b:Nat):Int)):=by
 unfold Acm;simp only[ne_eq,not_true_eq_false,if_false,Afg];rw[<-Int.natCast_sub hb,C4 _ (by omega)]
theorem Lb(t:AbQ)(a b:Nat)(h:a<9223372036854775808)(hb:0<b):Acm .quo t (.int .i64 (a:Int)) (.int .i64 (b:Int))=pure (.int .i64 ((a/b:Nat):Int)):=by
 unfold Acm;simp only[ne_eq,not_true_eq_false,if_false,Op.intDiv];rw[if_neg (by omega),<-Int.ofNat_tdiv,C4 _ (Afr (Nat.div_le_self a b) h)]
theorem FZ(t:AbQ)(a b:Nat)(hb:0<b):Acm .rem t (.int .i64 (a:Int)) (.int .i64 (b:Int))=pure (.int .i64 ((a%b:Nat):Int)):=by
 unfold Acm;simp only[ne_eq,not_true_eq_false,if_false,Op.intDiv];rw[if_neg (by omega),<-Int.ofNat_tmod]
theorem Lc(t:AbQ)(a:Nat)(j:AcK)(n:Nat)(hn:n<64):Acm .shr t (.int .i64 (a:Int)) (.int j (n:Int))=pure (.int .i64 ((a/2^n:Nat):Int)):=by
 unfold Acm;simp only[AgH,Ac4];rw[if_neg (by omega),Ab0,AeO (by omega)];have:(a:Int).fdiv (2^n)=((a/2^n:Nat):Int):=by
  rw[show(2^n:Int)=((2^n:Nat):Int) by simp,Aep _ (AeP _)];rfl
 rw[this]
theorem I3(t:AbQ)(a:Nat)(j:AcK)(n:Nat)(hn:n<64)(h:a*2^n<9223372036854775808):Acm .shl t (.int .i64 (a:Int)) (.int j (n:Int))=pure (.int .i64 ((a*2^n:Nat):Int)):=by
 unfold Acm;simp only[AgH,Ac4];rw[if_neg (by omega),Ab0,AeO (by omega)];have:(a:Int)*2^n=((a*2^n:Nat):Int):=by simp
 rw[this,C4 _ h]
theorem JB(n:Nat)(h:n<18446744073709551616):IntKind.u64.wrap (n:Int)=(n:Int):=by
 simp only[Afo,Ac4,Aeb];have:(n:Int)%(2^64:Int)=n:=by omega
 simp only[this];simp
theorem Vi(t:AbQ)(a b:Nat)(h:a*b<18446744073709551616):Acm .mul t (.int .u64 (a:Int)) (.int .u64 (b:Int))=pure (.int .u64 ((a*b:Nat):Int)):=by
 unfold Acm;simp only[ne_eq,not_true_eq_false,if_false,Afg];rw[<-Ag0,JB _ h]
theorem Vj(t:AbQ)(a b:Nat)(h:a<18446744073709551616)(hb:b<=a):Acm .sub t (.int .u64 (a:Int)) (.int .u64 (b:Int))=pure (.int .u64 ((a-b:Nat):Int)):=by
 unfold Acm;simp only[ne_eq,not_true_eq_false,if_false,Afg];rw[<-Int.natCast_sub hb,JB _ (by omega)]
theorem Vk(t:AbQ)(a:Nat)(j:AcK)(n:Nat)(hn:n<64):Acm .shr t (.int .u64 (a:Int)) (.int j (n:Int))=pure (.int .u64 ((a/2^n:Nat):Int)):=by
 unfold Acm;simp only[AgH,Ac4];rw[if_neg (by omega),Ab0,AeO (by omega)];have:(a:Int).fdiv (2^n)=((a/2^n:Nat):Int):=by
  rw[show(2^n:Int)=((2^n:Nat):Int) by simp,Aep _ (AeP _)];rfl
 rw[this]
theorem Vl(n:Nat)(h:n<256):IntKind.u8.wrap (n:Int)=(n:Int):=by
 simp only[Afo,Ac4,Aeb];have:(n:Int)%(2^8:Int)=n:=by omega
 simp only[this];simp
theorem Wx(t:AbQ)(a:Nat)(j:AcK)(n:Nat)(hn:n<8):Acm .shr t (.int .u8 (a:Int)) (.int j (n:Int))=pure (.int .u8 ((a/2^n:Nat):Int)):=by
 unfold Acm;simp only[AgH,Ac4];rw[if_neg (by omega),Ab0,AeO (by omega)];have:(a:Int).fdiv (2^n)=((a/2^n:Nat):Int):=by
  rw[show(2^n:Int)=((2^n:Nat):Int) by simp,Aep _ (AeP _)];rfl
 rw[this]
theorem GY(n:Nat):IntKind.u8.wrap (n:Int)=((UInt8.ofNat n).toNat:Int):=by
 rw[O4];simp
theorem Kd(k:AcK)(b:UInt8)(h:∀n:Nat,n<256->k.wrap (n:Int)=(n:Int)):k.wrap (b.toNat:Int)=((b.toNat:Nat):Int):=h _ b.toNat_lt
end
variable {P : Acg}
def C5(l1 l2:Ah5):List Nat->Bool
 | []=>true
 | i :: r=>if l1.getD i 0=l2.getD i 0 then C5 l1 l2 r else false
theorem Ic(l1 l2:Ah5):∀is:List Nat,C5 l1 l2 is=true↔∀i∈is,l1.getD i 0=l2.getD i 0
 | []=>by simp[C5]
 | i :: r=>by
  have ih:=Ic l1 l2 r;unfold C5;split
  ·rename_i h
   rw[ih];constructor
   ·intro h2 j hj;rcases Acy.1 hj with rfl | hj
    ·exact h
    ·exact h2 j hj
   ·exact fun h2 j hj=>h2 j (AcW _ hj)
  ·rename_i h
   constructor
   ·intro h2;cases h2
   ·intro h2;exact absurd (h2 i (by simp)) h
theorem byte_eq(a b:UInt8):((a.toNat:Int)==(b.toNat:Int))=decide (a=b):=by
 rw[Ael];simp;constructor
 ·intro h;exact UInt8.toNat_inj.1 (by omega)
 ·intro h;rw[h]
theorem run_eqArray(w:AbJ){t e:AbQ}{n d:Nat}(ht:P.underlying t=some (.array n e))(he:P.underlying e=some (.int .u8))(hs:(sizeOf e).run P w = .ok 1 w)(l1 l2:Ah5)(h1:l1.length=n)(h2:l2.length=n):
  (Aho (d+1+1) t (.agg (AbK l1).toArray) (.agg (AbK l2).toArray)).run P w = .ok (decide (l1=l2)) w:=by
 have hagg:(isAgg e).run P w = .ok false w:=by
  unfold isAgg;rw[AbY,run_underlying he w];rfl
 have hpart:∀(l:Ah5) (i:Nat),i<l.length->(part e (AbK l).toArray (i*1)).run P w = .ok (.int .u8 ((l.getD i 0).toNat:Int)) w:=fun l i hi=>by
  unfold part;rw[AbY,hagg];simp[AbK,hi,Ab1]
 have key:∀(is:List Nat),(∀i∈is,i<n)->∀(f:Nat->(Option Bool × Unit)->Sem (ForInStep ((Option Bool × Unit)))),
   (∀i r,i<n->(f i r).run P w=if l1.getD i 0=l2.getD i 0 then .ok (.yield (none,())) w else .ok (.done (some false,())) w) ->
   ∀r,r.1=none->(forIn is r f).run P w = .ok (if C5 l1 l2 is=true then none else some false,()) w:=by
  intro is
  induction is with
  | nil=>
   intro _ f _ r hr;obtain⟨a,b⟩:=r;simp at hr;subst hr;simp[C5,Ab1]
  | cons i is ih=>
   intro hi f hf r hr;simp only[List.forIn_cons,AbY,hf i r (hi i (by simp))];by_cases h:l1.getD i 0=l2.getD i 0
   ·rw[if_pos h];simp only[AbU];rw[ih (fun j hj=>hi j (AcW _ hj)) f hf (none,()) rfl];simp only[C5,if_pos h]
   ·rw[if_neg h];simp only[AbU,Ab1,C5,if_neg h];rfl
 obtain⟨D,hD⟩:∃D,D=d+1:=⟨_,rfl⟩;rw[<-hD];simp only[Aho,AbY,run_underlying ht,AbU,hs];rw[Std.Legacy.Range.forIn_eq_forIn_range'];have hsz:([:n]:Std.Legacy.Range).size=n:=by simp[Std.Legacy.Range.size]
 rw[hsz,key (Agh 0 n 1) (fun i hi=>by simpa using hi)]
 ·have hiff:=Ic l1 l2 (Agh 0 n 1);have hl:l1=l2↔C5 l1 l2 (Agh 0 n 1)=true:=by
   rw[hiff];constructor
   ·intro h i _;rw[h]
   ·intro h
    apply List.ext_getElem (by omega)
    intro i hi1 hi2;have:=h i (by simp;omega)
    simpa [hi1,hi2] using this
  by_cases h:l1=l2
  ·rw[hl.1 h,decide_eq_true h];simp[Ab1]
  ·have h' :C5 l1 l2 (Agh 0 n 1)=false:=by
    cases hb:C5 l1 l2 (Agh 0 n 1)with
    | false=>rfl
    | true=>exact absurd (hl.2 hb) h
   rw[h',decide_eq_false h];simp[Ab1]
 ·intro i r hi;simp only[AbY,hpart l1 i (by omega),hpart l2 i (by omega),AbU,hD,run_equalIn_int w d e .u8 .u8 _ _ he];by_cases h:l1.getD i 0=l2.getD i 0
  ·rw[if_pos h,byte_eq,decide_eq_true h];simp[Ab1]
  ·rw[if_neg h,byte_eq,decide_eq_false h];simp[Ab1]
 ·rfl
theorem Mw(w:AbJ){t e:AbQ}{n:Nat}(ht:P.underlying t=some (.array n e))(he:P.underlying e=some (.int .u8))(hs:(sizeOf e).run P w = .ok 1 w)(hg:P.eqGuardType P.depth t=false)(l1 l2:Ah5)(h1:l1.length=n)(h2:l2.length=n)(x y:AbV):
  (do eqGuard .eql t x y (.agg (AbK l1).toArray) (.agg (AbK l2).toArray);binOp .eql t (.agg (AbK l1).toArray) (.agg (AbK l2).toArray):Sem AbI).run P w = .ok (.bool (decide (l1=l2))) w:=by
 have he2:(eqGuard .eql t x y (.agg (AbK l1).toArray) (.agg (AbK l2).toArray)).run P w = .ok () w:=by
  simp[eqGuard,hg]
 rw[AbY,he2,AbU,run_eql_struct,run_eqArray (d:=9998) w ht he hs l1 l2 h1 h2];rfl
theorem Ot{ρ:AbV->AbI}{d:Option Tmp}{x y:AbV}{ty2 tt:AbQ}{pos:String}{af:Array AcI}{gd:Option (Nat × Bool)}{w:AbJ}{t e:AbQ}{n:Nat}(ht:P.underlying t=some (.array n e))(he:P.underlying e=some (.int .u8))(hs:(sizeOf e).run P w = .ok 1 w)(hg:P.eqGuardType P.depth t=false){l1 l2:Ah5}(h1:l1.length=n)(h2:l2.length=n) 
  (hx:ρ x = .agg (AbK l1).toArray) (hy:ρ y = .agg (AbK l2).toArray):(execOp ρ ⟨d, .binOp .eql t x y ty2,tt,pos,af,gd⟩).run P w = .ok (.value (.bool (decide (l1=l2)))) w:=by
 have h:=Mw (P:=P) w ht he hs hg l1 l2 h1 h2 x y;simp only[execOp,hx,hy];rw[AbY,h];rfl
def RBs(w:AbJ)(v:AbI)(ls:List Ah5):Prop:=∃vs:List AbI,vs.length=ls.length/\Reads w 1 v ls.length vs/\∀i,i<ls.length->RB w (vs.getD i undef) (ls.getD i [])
theorem Y9{w w' :AbJ}(h:Ext w w'){a:Addr}{v:AbI}(hc:w.cell? a=some v):w'.cell? a=some v:=by
 rw[Below.cell h (Ada w a hc)];exact hc
theorem Reads.keep{w w' :AbJ}{z n:Nat}{v:AbI}{xs:List AbI}(h:Reads w z v n xs)(k:Ext w w'):Reads w' z v n xs:=by
 obtain⟨h1,ao,cap,rfl,h2,h3,h4,h5⟩:=h;exact⟨h1,ao,cap,rfl,h2,h3,h4,fun a ha j u hu=>Y9 k (h5 a ha j u hu)⟩
theorem RBs.keep{w w' :AbJ}{v:AbI}{ls:List Ah5}(h:RBs w v ls)(k:Ext w w'):RBs w' v ls:=by
 obtain⟨vs,h1,h2,h3⟩:=h;exact⟨vs,h1,h2.keep k,fun i hi=>(h3 i hi).keep k⟩
theorem RBs.nil(w:AbJ):RBs w (.slice none 0 0) []:=⟨[],rfl,⟨rfl,none,0,rfl,AbO _,by simp[maxLen],fun _=>⟨rfl,rfl⟩,fun a h=>by cases h⟩,fun i hi=>by simp at hi⟩
abbrev AbD:=@RBs.nil
theorem RB.nil(w:AbJ):RB w (.slice none 0 0) []:=⟨rfl,none,0,rfl,AbO _,by simp[maxLen],fun _=>⟨rfl,rfl⟩,fun a h=>by cases h⟩
abbrev Abi:=@RB.nil
theorem Aag{w w' :AbJ}{v:AbI}(h:RB w v []):RB w' v []:=by
 obtain⟨h1,ao,cap,rfl,h2,h3,h4,h5⟩:=h;exact⟨h1,ao,cap,rfl,h2,h3,h4,fun a ha j u hu=>by simp[AbK]at hu⟩
theorem RB.lt{w:AbJ}{v:AbI}{l:Ah5}(h:RB w v l)(hl:0<l.length){b:Nat}(hb:v.ownBlock=some b):b<w.heap.size:=by
 obtain⟨b',off,cap,rfl,-,-,h1,-⟩:=h.open_ hl;simp[AbS]at hb;omega
theorem RB.slice{w:AbJ}{v:AbI}{l:Ah5}(h:RB w v l):∃ao n c,v = .slice ao n c:=by
 obtain⟨h1,ao,cap,rfl,-⟩:=h;exact⟨ao,_,cap,rfl⟩
abbrev Abr:=@RB.slice
section
variable {P : Acg} {K : AbI -> AbJ -> Prop} {ρ : Ac} {w : AbJ} {d : Option Tmp} {ty : AbQ} {pos : String} {af : Array AcI} {gd : Option (Nat × Bool)}
theorem AaU{v x:AbI}{l:List Ah5}(h:RBs w v l)(e:x=v):RBs w x l:=by rw[e];exact h
theorem Ji{w:AbJ}{b:Nat}{xs:List AbI}{t:AbQ}{fr:Nat × Nat}(hb:w.heap[b]? =some (.cells xs.toArray t fr))(hl:xs.length<=maxLen):Reads w 1 (.slice (some ⟨b,0,none⟩) xs.length xs.length) xs.length xs:=
 ⟨by simp,_,_,rfl,AbO _,hl,fun h=>by simp at h,fun a ha j u hu=>by
  cases ha;rw[Ade,Ac2];exact cellAt hb hu⟩
theorem YA{t e:AbQ}(hr:∀(ao:Option Addr) (n c:Nat) (w:AbJ),(Acq t 1 #[(0, .slice ao n c)]).run P w = .ok (.slice (some ⟨w.heap.size,0,none⟩) 1 1) (w.alloc (.cells #[.slice ao n c] e))){x:AbV}{l:Ah5}(hx:RB w (Aa ρ x) l) 
  (hk:∀v w',RBs w' v [l]->Ext w w' ->K v w'):Yk P K ((execOp (Aa ρ) ⟨d, .buildSlice t 1 #[(0,x)],ty,pos,af,gd⟩).run P w):=by
 obtain⟨ao,n,c,hv⟩:=hx.slice;rw[hv]at hx;have hr' :(execOp (Aa ρ) ⟨d, .buildSlice t 1 #[(0,x)],ty,pos,af,gd⟩).run P w = .ok (.value (.slice (some ⟨w.heap.size,0,none⟩) 1 1)) (w.alloc (.cells #[.slice ao n c] e)):=by
  unfold execOp;simp only[Acp,Aco,Acz,hv,AbY,hr,AbU,Ab1]
 rw[hr'];have hE:Ext w (w.alloc (.cells #[.slice ao n c] e)):=(AcB _ _).alloc (AbO _) _;refine hk _ _ ⟨[.slice ao n c],rfl,Ji (xs:= [.slice ao n c]) (heap_alloc_new w _) (by simp[maxLen]),fun i hi=> ?_⟩ hE;have:i=0:=by simp at hi;omega
 subst this;exact hx.keep hE
theorem Aaz{t e:AbQ}(hr:∀(ao:Option Addr) (n c:Nat) (ao' :Option Addr) (n' c' :Nat) (w:AbJ),(Acq t 2 #[(0, .slice ao n c),(1, .slice ao' n' c')]).run P w = .ok (.slice (some ⟨w.heap.size,0,none⟩) 2 2) (w.alloc (.cells #[.slice ao n c, .slice ao' n' c'] e))){x y:AbV}{l m:Ah5}(hx:RB w (Aa ρ x) l)(hy:RB w (Aa ρ y) m) 
  (hk:∀v w',RBs w' v [l,m]->Ext w w' ->K v w'):Yk P K ((execOp (Aa ρ) ⟨d, .buildSlice t 2 #[(0,x),(1,y)],ty,pos,af,gd⟩).run P w):=by
 obtain⟨ao,n,c,hv⟩:=hx.slice;obtain⟨ao',n',c',hv'⟩:=hy.slice;rw[hv]at hx;rw[hv']at hy;have hr' :(execOp (Aa ρ) ⟨d, .buildSlice t 2 #[(0,x),(1,y)],ty,pos,af,gd⟩).run P w = .ok (.value (.slice (some ⟨w.heap.size,0,none⟩) 2 2)) (w.alloc (.cells #[.slice ao n c, .slice ao' n' c'] e)):=by
  unfold execOp;simp only[Acp,Aco,Acz,hv,hv',AbY,hr,AbU,Ab1]
 rw[hr'];have hE:Ext w (w.alloc (.cells #[.slice ao n c, .slice ao' n' c'] e)):=(AcB _ _).alloc (AbO _) _;refine hk _ _ ⟨[.slice ao n c, .slice ao' n' c'],rfl,Ji (xs:= [.slice ao n c, .slice ao' n' c']) (heap_alloc_new w _) (by simp[maxLen]),fun i hi=> ?_⟩ hE;have:i=0\/i=1:=by simp at hi;omega
 rcases this with rfl | rfl
 ·exact hx.keep hE
 ·exact hy.keep hE
theorem AaX{t e:AbQ}(ht:P.underlying t=some (.slice e))(he:∀w' :AbJ,(sizeOf e).run P w' = .ok 1 w'){x y:AbV}{ls:List Ah5}(h:RBs w (Aa ρ x) ls){k:AcK}{i:Nat}(hy:Aa ρ y = .int k (i:Int))(hi:i<ls.length) 
  (hk:∀v u,PCell u v w->RB w u (ls.getD i [])->K v w):Yk P K ((execOp (Aa ρ) ⟨d, .indexAddr t x y,ty,pos,af,gd⟩).run P w):=by
 obtain⟨vs,h1,h2,h3⟩:=h;have hu:=h3 i hi;obtain⟨h4,ao,cap,hv,h5,h6,h7,h8⟩:=h2;cases ao with
 | none=>have:=(h7 rfl).1;omega
 | some a=>
  obtain⟨b,o,sp⟩:=a;have hc:=h8 _ rfl i (vs.getD i undef) (by simp[show i<vs.length by omega]);have h0:=h8 _ rfl 0 (vs.getD 0 undef) (by simp[show 0<vs.length by omega]);have hsp:sp=none:=by simpa [AdO] using AeA h0
  subst hsp;rw[Ade]at hc;exact Y4 ht he hv hy hi (hk _ _ ⟨_,rfl,hc⟩ hu)
theorem Aah{w0:AbJ}(E:Ext w0 w){t e:AbQ}(ht:P.underlying t=some (.slice e))(he:∀w' :AbJ,(sizeOf e).run P w' = .ok 1 w'){x y:AbV}{c:AbI}{ls:List Ah5}(h:RBs w0 c ls)(hx:Aa ρ x=c){k:AcK}{i:Nat}(hy:Aa ρ y = .int k (i:Int))(hi:i<ls.length) 
  (hk:∀v u,PCell u v w->RB w0 u (ls.getD i [])->K v w):Yk P K ((execOp (Aa ρ) ⟨d, .indexAddr t x y,ty,pos,af,gd⟩).run P w):=by
 obtain⟨vs,h1,h2,h3⟩:=h;have hu:=h3 i hi;obtain⟨h4,ao,cap,hv,h5,h6,h7,h8⟩:=h2;cases ao with
 | none=>have:=(h7 rfl).1;omega
 | some a=>
  obtain⟨b,o,sp⟩:=a;have hc:=h8 _ rfl i (vs.getD i undef) (by simp[show i<vs.length by omega]);have h0:=h8 _ rfl 0 (vs.getD 0 undef) (by simp[show 0<vs.length by omega]);have hsp:sp=none:=by simpa [AdO] using AeA h0
  subst hsp;rw[Ade]at hc;exact Y4 ht he (hx.trans hv) hy hi (hk _ _ ⟨_,rfl,Y9 E hc⟩ hu)
theorem Aai{t e:AbQ}(ht:P.underlying t=some (.slice e)){x:AbV}{ls:List Ah5}{w0:AbJ}(h:RBs w0 (Aa ρ x) ls)(hk:K (NI ls.length) w):Yk P K ((execOp (Aa ρ) ⟨d, .call ⟨.builtin .len,#[x],#[t]⟩,ty,pos,af,gd⟩).run P w):=by
 obtain⟨vs,h1,⟨h4,ao,cap,hv,-⟩,h3⟩:=h;exact YZ ht hv hk
theorem ZD{t e ty2:AbQ}{n:Nat}(ht:P.underlying t=some (.array n e))(he:P.underlying e=some (.int .u8))(hs:∀w:AbJ,(sizeOf e).run P w = .ok 1 w)(hg:P.eqGuardType P.depth t=false){x y:AbV}{l1 l2:Ah5}(hx:Aa ρ x = .agg (AbK l1).toArray)(hy:Aa ρ y = .agg (AbK l2).toArray)(h1:l1.length=n)(h2:l2.length=n) 
  (hk:K (.bool (decide (l1=l2))) w):Yk P K ((execOp (Aa ρ) ⟨d, .binOp .eql t x y ty2,ty,pos,af,gd⟩).run P w):=
 Aa4 (Ot ht he (hs w) hg h1 h2 hx hy) hk
theorem ZE{t e ty2:AbQ}{n:Nat}(ht:P.underlying t=some (.array n e))(he:P.underlying e=some (.int .u8))(hs:∀w:AbJ,(sizeOf e).run P w = .ok 1 w)(hg:P.eqGuardType P.depth t=false){x y:AbV}{l1 l2:Ah5}(hx:Aa ρ x = .agg (AbK l1).toArray)(hy:Aa ρ y = .agg (AbK l2).toArray)(h1:l1.length=n)(h2:l2.length=n) 
  (hk:K (.bool (decide (l1≠l2))) w):Yk P K ((execOp (Aa ρ) ⟨d, .binOp .neq t x y ty2,ty,pos,af,gd⟩).run P w):=by
 have he2:(eqGuard .neq t x y (.agg (AbK l1).toArray) (.agg (AbK l2).toArray)).run P w = .ok () w:=by
  simp[eqGuard,hg]
 have heq:(Afq t (.agg (AbK l1).toArray) (.agg (AbK l2).toArray)).run P w = .ok (decide (l1=l2)) w:=run_eqArray (d:=9998) w ht he (hs w) l1 l2 h1 h2;have hb:(!decide (l1=l2))=decide (l1≠l2):=by simp
 refine Aa4 (v:= .bool (decide (l1≠l2))) (w' :=w) ?_ hk;unfold execOp;simp only[hx,hy,AbY,he2,AbU,Acm,heq,Ab1,hb]
theorem ZO{t e:AbQ}(ht:P.underlying t=some (.slice e))(he:P.underlying e=some (.int .u8)){x:AbV}{v:AbI}{b:Nat}{l:Ah5}(hx:Aa ρ x=v)(ho:w.ownsRow b e 1 v l.length (AbK l))(hl:0<l.length) 
  (hk:∀w',RB w' v l->Grew w w' v v->K v w'):Yk P K ((execOp (Aa ρ) ⟨d, .convert t t x,ty,pos,af,gd⟩).run P w):=by
 rcases ho.2 with ⟨rfl,h0⟩ | ⟨g,cap,cur,rfl,hbg,hg,hnc,hcm,hcs,htake⟩
 ·omega
 ·have hlt:g<w.heap.size:=(Ace.1 hg).1;have hsh:w.shape? g=some (e,cur.size):=by
   unfold World.shape?;rw[hg]
  have hr:(convert t t (.slice (some ⟨g,0,none⟩) l.length cap)).run P w = .ok (.slice (some ⟨g,0,none⟩) l.length cap) (w.freeze ⟨g,cur.size,none⟩ 1):=by
   simp[convert,run_underlying ht,run_underlying he,markStringish,hsh]
  have hold:∀k,k≠g->(w.freeze ⟨g,cur.size,none⟩ 1).heap[k]? =w.heap[k]? :=fun k hk=>by
   simp[AgM,Ahe,Ne.symm hk]
  have hnew:(w.freeze ⟨g,cur.size,none⟩ 1).heap[g]? =some (.cells cur e (cur.size,cur.size+1)):=by
   have hg' :=hg;rw[Ace]at hg';obtain⟨h1,h2⟩:=hg';simp[AgM,Ahe,hg]
  have hsz:(w.freeze ⟨g,cur.size,none⟩ 1).heap.size=w.heap.size:=by simp[AgM]
  refine Aa4 (v:= .slice (some ⟨g,0,none⟩) l.length cap) (w' :=w.freeze ⟨g,cur.size,none⟩ 1) ?_ (hk _ ?_ ⟨⟨?_,?_,?_,by omega,fun k _ hne=>hold k (fun e=>hne (by rw[e];rfl))⟩,fun k h=> .inl h⟩)
  ·unfold execOp;simp only[hx,AbY,hr,AbU,Ab1]
  ·have hb:=Ya ho;obtain⟨h1,ao,c2,hv,h3,h4,h5,h6⟩:=hb;simp only[Value.slice.injEq,true_and]at hv;obtain⟨rfl,rfl⟩:=hv;refine⟨h1,_,_,rfl,h3,h4,h5,fun a ha j u hu=> ?_⟩;have hc:=h6 a ha j u hu;cases ha;rw[Ade]at hc ⊢;simp only[Ad6,hg]at hc;simp only[Ad6,hnew];exact hc
  all_goals simp[AgM]
end
section
variable {P : Acg} {K : AbI -> AbJ -> Prop} {ρ : Ac} {w : AbJ} {d : Option Tmp} {ty : AbQ} {pos : String} {af : Array AcI} {gd : Option (Nat × Bool)}
theorem Zi{t:AbQ}(ht:P.underlying t=some .string){x y:AbV}{l:Ah5}{k:AcK}{i:Nat}(hx:Aa ρ x=St l)(hy:Aa ρ y = .int k (i:Int))(hi:i<l.length)(hk:K (B8 (l.getD i 0)) w):Yk P K ((execOp (Aa ρ) ⟨d, .index t x y,ty,pos,af,gd⟩).run P w):=by
 refine Aa4 (v:=B8 (l.getD i 0)) (w' :=w) ?_ hk;have hb:(⟨l.toArray⟩:ByteArray)[i]? =some (l.getD i 0):=by
  rw[getElem?_pos (⟨l.toArray⟩:ByteArray) i (show i<l.toArray.size by simpa using hi)];show some (l.toArray[i]'(by simpa using hi))=_;simp[hi]
 unfold execOp;simp only[hx,hy,Instr.index,asIntOf,AbY,Ab1,AbU,run_underlying ht];rw[if_pos (by omega),Ab0,hb];rfl
theorem PI(l:Ah5)(a b:Nat):(⟨l.toArray⟩:ByteArray).extract a b=⟨((l.drop a).take (b-a)).toArray⟩:=by
 apply ByteArray.ext
 rw[ByteArray.data_extract];simp only[List.extract_toArray,List.extract_eq_take_drop]
theorem Zm{t:AbQ}(ht:P.underlying t=some .string){x:AbV}{lo hi:Option AbV}{l:Ah5}(a b:Nat)(hx:Aa ρ x=St l)(hlo:lo.map (Aa ρ)=none/\a=0\/∃k,lo.map (Aa ρ)=some (.int k a))(hhi:hi.map (Aa ρ)=none/\b=l.length\/∃k,hi.map (Aa ρ)=some (.int k b))(hab:a<=b)(hb:b<=l.length) 
  (hk:K (St ((l.drop a).take (b-a))) w):Yk P K ((execOp (Aa ρ) ⟨d, .slice t x lo hi none,ty,pos,af,gd⟩).run P w):=by
 refine Aa4 (v:=St ((l.drop a).take (b-a))) (w' :=w) ?_ hk;have hs:(⟨l.toArray⟩:ByteArray).size=l.length:=by show l.toArray.size=_;simp
 have hr:(Afd t (St l) (lo.map (Aa ρ)) (hi.map (Aa ρ)) none).run P w = .ok (St ((l.drop a).take (b-a))) w:=by
  have hE:=PI l a b;rcases hlo with ⟨h1,rfl⟩ | ⟨k,h1⟩ <;> rcases hhi with ⟨h2,rfl⟩ | ⟨k',h2⟩ <;> rw[h1,h2] <;>
   simp[Afd,Instr.slice,run_underlying ht,Instr.sliceBounds,Instr.sliceBound,asIntOf,hs] <;>
   first
    | (simp[hE];done)
    | (rw[if_pos (by omega)];simp[hE];done)
    | (rw[if_pos hb,if_pos hab,hE];done)
    | (intro h;omega)
 unfold execOp;simp only[hx,AdE,hr,AbY,Ab1,AbU]
theorem O5(l:Ah5):(⟨l.toArray⟩:ByteArray).toList=l:=by
 rw[ByteArray.toList_eq]
theorem U2(l m:Ah5):((⟨l.toArray⟩:ByteArray).toList==(⟨m.toArray⟩:ByteArray).toList)=decide (l=m):=by
 rw[O5,O5,Ael];simp
theorem YK{op:BinOp}(hop:op = .eql\/op = .neq){t ty2:AbQ}{x y:AbV}{l m:Ah5}(hx:Aa ρ x=St l)(hy:Aa ρ y=St m)(b:Bool)(hb:b=match op with | .eql=>decide (l=m) | _=>decide (l≠m))(hk:K (.bool b) w):Yk P K ((execOp (Aa ρ) ⟨d, .binOp op t x y ty2,ty,pos,af,gd⟩).run P w):=by
 refine Aa4 (v:= .bool b) (w' :=w) ?_ hk;subst hb;have hn:(!decide (l=m))=decide (l≠m):=by simp
 unfold execOp;rcases hop with rfl | rfl
 ·simp only[hx,hy,eqGuard,Acm,Op.stringOp,U2,AbY,Ab1];rfl
 ·simp only[hx,hy,eqGuard,Acm,Op.stringOp,U2,hn,AbY,Ab1];rfl
theorem ZF{t ty2:AbQ}{x y:AbV}{l m:Ah5}(hx:Aa ρ x=St l)(hy:Aa ρ y=St m)(hb:l.length+m.length<=9223372036854775807)(hk:K (St (l++m)) w):Yk P K ((execOp (Aa ρ) ⟨d, .binOp .add t x y ty2,ty,pos,af,gd⟩).run P w):=
 Aad hx hy hb hk
theorem YI{t:AbQ}(ht:P.underlying t=some .string){x:AbV}{l:Ah5}(hx:Aa ρ x=St l)(hk:K (NI l.length) w):Yk P K ((execOp (Aa ρ) ⟨d, .call ⟨.builtin .len,#[x],#[t]⟩,ty,pos,af,gd⟩).run P w):=by
 have hs:(⟨l.toArray⟩:ByteArray).size=l.length:=by show l.toArray.size=_;simp
 exact Aae ht hx (by rw[hs];exact hk)
theorem Yk.extract{x:AbV}{vs:List AbI}{i:Nat}{v:AbI}(hx:Aa ρ x = .tuple vs.toArray)(hv:vs[i]? =some v)(hk:K v w):Yk P K ((execOp (Aa ρ) ⟨d, .extract x i,ty,pos,af,gd⟩).run P w):=by
 refine Aa4 (v:=v) (w' :=w) ?_ hk;unfold execOp;simp[hx,Instr.extract,hv]
abbrev AaZ:=@Yk.extract
theorem Z2{f:AdB}{at_:Array AbQ}{x:AbV}{a v:AbI}(hx:Aa ρ x=a)(hr:(callFunc f #[a]).run P w = .ok (.value v) w)(hk:K v w):Yk P K ((execOp (Aa ρ) ⟨d, .call ⟨.value (.func f),#[x],at_⟩,ty,pos,af,gd⟩).run P w):=by
 refine Aa4 (v:=v) (w' :=w) ?_ hk;have hf:Aa ρ (.func f) = .func (.func f) #[] #[]:=rfl;unfold execOp;simp[resolve,hf,Deferred.ofValue,invoke,hx,hr]
theorem PJ{x0 y0:AbI}(h0:x0=y0): [x0]= [y0]:=by rw[h0]
theorem FK{x0 x1 y0 y1:AbI}(h0:x0=y0)(h1:x1=y1): [x0,x1]= [y0,y1]:=by rw[h0,h1]
theorem U3{x0 x1 x2 y0 y1 y2:AbI}(h0:x0=y0)(h1:x1=y1)(h2:x2=y2): [x0,x1,x2]= [y0,y1,y2]:=by rw[h0,h1,h2]
theorem PK{x0 x1 x2 x3 y0 y1 y2 y3:AbI}(h0:x0=y0)(h1:x1=y1)(h2:x2=y2)(h3:x3=y3): [x0,x1,x2,x3]= [y0,y1,y2,y3]:=by rw[h0,h1,h2,h3]
theorem YT{f:AdB}(hp:Plain P f){c:AbV}{args:Array AbV}{at_:Array AbQ}{caps:Array AbI}(hc:Aa ρ c = .func (.func f) #[] caps)(vs:Array AbI)(hv:args.map (Aa ρ)++caps=vs) 
  (h:Calls P f vs w fun e w' =>∃v,e = .returned v/\K v w'):Yk P K ((execOp (Aa ρ) ⟨d, .call ⟨.value c,args,at_⟩,ty,pos,af,gd⟩).run P w):=by
 subst hv;refine Yk.enter (f:=f) (args:=args.map (Aa ρ)++caps) (w' :=w) ?_ h;unfold execOp;simp[resolve,hc,Deferred.ofValue,invoke,hp _ w]
theorem Yx{f:Fn}{caps:Array AbV}{vs:Array AbI}(hv:caps.map (Aa ρ)=vs)(hk:K (.func f #[] vs) w):Yk P K ((execOp (Aa ρ) ⟨d, .makeFunc f #[] caps,ty,pos,af,gd⟩).run P w):=by
 refine Aa4 (v:= .func f #[] vs) (w' :=w) ?_ hk;unfold execOp;simp[Instr.makeFunc,hv]
theorem YF{e:AbQ}{x:AbV}{v:AbI}(hx:Aa ρ x=v)(hv:v.cells = #[v]) 
  (hk:∀n w',w.heap.size=n->w'.heap[n]? =some (.cells ([v]:List AbI).toArray e (0,0))->Ext w w' ->w'.heap.size=n+1->K (.pointer (some ⟨n,0,none⟩)) w'):Yk P K ((execOp (Aa ρ) ⟨d, .box e x,ty,pos,af,gd⟩).run P w):=by
 have hr:(execOp (Aa ρ) ⟨d, .box e x,ty,pos,af,gd⟩).run P w = .ok (.value (.pointer (some ⟨w.heap.size,0,none⟩))) (w.alloc (.cells #[v] e)):=by
  show((Instr.box e (Aa ρ x)).run P w).andThen (fun v w=>AgZ (Next.value v) w)=_;rw[hx];simp[Instr.box,newVar,hv];rfl
 rw[hr];exact hk _ _ rfl (heap_alloc_new w _) ((AcB _ _).alloc (AbO _) _) (by simp)
end
theorem B7{w:AbJ}{b:Nat}{e:AbQ}{z n:Nat}{v:AbI}{xs:List AbI}(h:w.ownsRow b e z v n xs):v.cells = #[v]/\v.oneCell' =true:=by
 rcases h.2 with ⟨rfl,_⟩ | ⟨g,cap,cur,rfl,-⟩ <;> exact⟨rfl,rfl⟩
theorem RB.one{w:AbJ}{v:AbI}{l:Ah5}(h:RB w v l):v.cells = #[v]/\v.oneCell' =true:=by
 obtain⟨-,ao,cap,rfl,-⟩:=h;exact⟨rfl,rfl⟩
abbrev Aa8:=@RB.one
/-! ### Bits of numbers that are not below 0 -/
theorem XH(t:AbQ)(a b:Nat)(ha:a<9223372036854775808)(hb:b<9223372036854775808):Acm .and t (.int .i64 (a:Int)) (.int .i64 (b:Int))=pure (.int .i64 ((a&&&b:Nat):Int)):=by
 unfold Acm;simp only[ne_eq,not_true_eq_false,if_false,AfA,Ac4,Ae6];have h1:(AdQ 64 a&&&AdQ 64 b).toNat=a&&&b:=by
  rw[BitVec.toNat_and,Aei,Aei,Ac5 (by omega),Ac5 (by omega)]
 show pure (Adm .i64 (IntKind.i64.wrap (((AdQ 64 a&&&AdQ 64 b).toNat:Nat):Int)))=_;rw[h1,C4 _ (Afr Nat.and_le_left ha)]
theorem Ke(t:AbQ)(a b:Nat)(ha:a<9223372036854775808)(hb:b<9223372036854775808):Acm .or t (.int .i64 (a:Int)) (.int .i64 (b:Int))=pure (.int .i64 ((a|||b:Nat):Int)):=by
 unfold Acm;simp only[ne_eq,not_true_eq_false,if_false,AfA,Ac4,Ae6];have h1:(AdQ 64 a|||AdQ 64 b).toNat=a|||b:=by
  rw[BitVec.toNat_or,Aei,Aei,Ac5 (by omega),Ac5 (by omega)]
 show pure (Adm .i64 (IntKind.i64.wrap (((AdQ 64 a|||AdQ 64 b).toNat:Nat):Int)))=_;rw[h1,C4 _ (Nat.or_lt_two_pow (n:=63) ha hb)]
theorem Wy(t:AbQ)(a b:Nat)(ha:a<256)(hb:b<256):Acm .and t (.int .u8 (a:Int)) (.int .u8 (b:Int))=pure (.int .u8 ((a&&&b:Nat):Int)):=by
 unfold Acm;simp only[ne_eq,not_true_eq_false,if_false,AfA,Ac4,Ae6];have h1:(AdQ 8 a&&&AdQ 8 b).toNat=a&&&b:=by
  rw[BitVec.toNat_and,Aei,Aei,Ac5 (by omega),Ac5 (by omega)]
 show pure (Adm .u8 (IntKind.u8.wrap (((AdQ 8 a&&&AdQ 8 b).toNat:Nat):Int)))=_;rw[h1,Vl _ (Afr Nat.and_le_left ha)]
theorem Kf(h l k:Nat)(hl:l<2^k):h*2^k|||l=h*2^k+l:=by
 rw[<-AgI,Nat.shiftLeft_add_eq_or_of_lt hl]
/-! ### The last operation in the frame as it then is -/
section
variable {P : Acg} {l : List Aca} {kill : Nat -> List Nat} {C : Nat -> AbJ -> Prop} {R : Nat -> AbJ -> AbJ -> Prop} {Φ : Nat -> Bu} {a0 : Act}
theorem Yk.mono'{K K' :AbI->AbJ->Prop}{r:AgG Next}(h:Yk P K r)(hm:∀v w,K v w->K' v w):Yk P K' r:=by
 cases r with
 | halt x w' =>exact h.elim
 | ok n w' =>
  cases n <;> simp only[Yk]at h ⊢
  case value v=>exact hm _ _ h
  case skip=>exact hm _ _ h
  case enter f args=>exact h.mono fun e w'' ⟨v,h1,h2⟩=>⟨v,h1,hm _ _ h2⟩
def StepsFL(P:Acg)(l:List Aca)(L:Nat)(C:Nat->AbJ->Prop)(R:Nat->AbJ->AbJ->Prop)(Φ:Nat->Bu)(ρ:Ac):Nat->List Aca->Prop
 | _,[]=>True
 | n,o :: r=>(bif Aea n L then True else Fi P l C R Φ ρ n o)/\StepsFL P l L C R Φ ρ (n+1) r
theorem Dy{L n:Nat}{ρ:Ac}{o:Aca}(h:Fi P l C R Φ ρ n o):bif Aea n L then True else Fi P l C R Φ ρ n o:=by
 cases Aea n L
 ·exact h
 ·trivial
theorem StepsFL.get{L:Nat}{ρ:Ac}:∀(r:List Aca) (n:Nat),StepsFL P l L C R Φ ρ n r->∀k o,r[k]? =some o->n+k≠L->Fi P l C R Φ ρ (n+k) o
 | [],_,_,k,o,h,_=>by simp at h
 | o' :: r,n,hs,0,o,h,hne=>by
  simp only[Ad8,Adw]at h;subst h;have h1:=hs.1;rw[show Aea n L=false by rw[<-AfN,Nat.beq_eq];exact hne]at h1;exact h1
 | o' :: r,n,hs,k+1,o,h,hne=>by
  rw[Adl]at h;have:=StepsFL.get r (n+1) hs.2 k o h (by omega)
  rwa [show n+1+k=n+(k+1) by omega]at this
theorem Vm(g:H5 l a0.tmps.size)(hkl:CY l kill=true){L:Nat}{oL:Aca}(hn:FJ l L=true)(hoL:l[L]? =some oL)(hgL:oL.guard=none)(hdL:oL.dst=none) 
  (hC:∀n m,n<l.length->m<l.length->n≠m->((AN l []).getD n 0).testBit m=false->∀w w',C m w->R n w w' ->C m w') (hΦ:∀n i,n<l.length->i<l.length->i∉kill n->i≠n->((AN l []).getD i 0).testBit n=false->∀v w w',Φ i v w->R n w w' ->Φ i v w') (hRr:∀n o w,l[n]? =some o->o.guard.isSome=true->R n w w) (hs:∀i o,l[i]? =some o->i≠L->GS P l C R Φ a0.tmps i o) {Q:Aet->Act->AbJ->Prop}
  (hQ:∀listed a' w',(∀i,i<l.length->i≠L->On listed i)->¬On listed L->Inv l kill C (fun _ _=>True) Φ a0 listed a' w' ->Yk P (fun _ w'' =>Q .normal a' w'') ((execOp a'.eval oL).run P w')):
  ∀(fuel:Nat) (listed:Array Bool) (a:Act) (w:AbJ),(listed.toList.filter (!·)).length=fuel->¬On listed L->Inv l kill C (fun _ _=>True) Φ a0 listed a w->wpAny P .any l.toArray Q fuel listed a w:=by
 obtain⟨hlen,hb⟩:=Fq hn;have rdy:∀(listed:Array Bool),listed.size=l.length->(∀i,i<l.length->On listed i)->Adf .any l.toArray listed= []:=by
  intro listed hsz hon;cases hr:Adf .any l.toArray listed with
  | nil=>rfl
  | cons x xs=>
   exfalso;have hm:x∈Adf .any l.toArray listed:=by rw[hr];simp
   obtain⟨h1,o,ho,_⟩:=mem_ready.1 hm;have hx:x<l.length:=by simpa using (Ace.1 ho).1
   have h2:=hon x hx;have hx' :x<listed.size:=h2.lt;unfold On at h2;simp[hx']at h1 h2;rw[h1]at h2;cases h2
 intro fuel
 induction fuel with
 | zero=>
  intro listed a w hf hoff h;exfalso;have:=EP _ hf L (by rw[AdK,h.size];omega);exact hoff (by unfold On;simp at this;simp[this])
 | succ fuel ih=>
  intro listed a w hf hoff h;have hstep:∀i∈Adf .any l.toArray listed,∃o,l[i]? =some o/\¬On listed i/\(∀e∈o.after,Adb .any e=true->On listed e.on)/\((listed.setIfInBounds i true).toList.filter (!·)).length=fuel:=by
   intro i hi;obtain⟨h1,o,ho,hall⟩:=mem_ready.1 hi;have ho' :l[i]? =some o:=by simpa using ho
   have hil:i<listed.size:=by rw[h.size];exact(Acf.1 ho').1
   refine⟨o,ho',?_,fun e he hb=>hall e he hb,?_⟩
   ·unfold On;simp[hil]at h1 ⊢;exact h1
   ·rw[Aen];have:=Fp listed.toList i (by
     simp[hil]at h1;simp[hil,h1])
    omega
  refine⟨fun hr=> ?_,fun i hi=> ?_⟩
  ·exfalso;have full:∀i,i<l.length->On listed i:=by
    intro i
    induction i using Aek with
    | _ i ih=>
     intro hi;refine AdA fun hno=> ?_;have ho:l[i]? =some l[i]:=AbT hi;have:i∈Adf .any l.toArray listed:=by
      refine mem_ready.2 ⟨?_,l[i],by rw[AcN];exact ho,fun e he hb=> ?_⟩
      ·have hi' :i<listed.size:=by rw[h.size];exact hi
       unfold On at hno;simp[hi']at hno ⊢;exact hno
      ·have hlt:=g.back i _ ho e he hb;exact ih e.on hlt (by omega)
     rw[hr]at this;cases this
   exact hoff (full L (by omega))
  ·obtain⟨o,ho,hno,hall,hcnt⟩:=hstep i hi;by_cases hiL:i=L
   ·subst hiL;obtain rfl:oL=o:=by rw[hoL]at ho;exact Acu ho
    have hon:∀j,j<l.length->j≠i->On listed j:=fun j hj hne=>h.maskReady ho hall (hb j (by omega));have hst:=hQ listed a w hon hno h;have hall' :∀j,j<l.length->On (listed.setIfInBounds i true) j:=fun j hj=>by
     by_cases hji:j=i
     ·exact(on_set (by rw[h.size];omega)).2 (.inl hji)
     ·exact(on_set (by rw[h.size];omega)).2 (.inr (hon j hj hji))
    have hr:=rdy (listed.setIfInBounds i true) (by simpa using h.size) hall';have fin:∀v w',Q .normal a w' ->wpAny P .any l.toArray Q fuel (listed.setIfInBounds i true) (a.put oL.dst v) w' :=fun v w' hq=>by
     have b:a.put oL.dst v=a:=by rw[hdL];rfl
     rw[b];cases fuel with
     | zero=>exact⟨hr,hq⟩
     | succ m=>exact⟨fun _=>hq,fun j hj=>by rw[hr]at hj;cases hj⟩
    unfold wpOp;simp only[AcN,ho];have hw:Ac8 oL (yielded l.toArray a.tmps)=true:=by unfold Ac8;rw[hgL]
    rw[if_pos hw];refine .inl ?_;unfold Aex
    generalize (execOp a.eval oL).run P w=r at hst ⊢
    cases r with
    | halt x w' =>exact hst.elim
    | ok n w' =>
     cases n <;> simp only[Yk]at hst <;> simp only[AeL]
     case value v=>exact fin _ _ hst
     case skip=>exact fin _ _ hst
     case enter f args=>
      refine hst.mono fun e w'' hx=> ?_;obtain⟨v,rfl,h1⟩:=hx;exact fin _ _ h1
   ·refine h.step g hkl hC (fun _ _ _ _ _ _ _ _ _ _=>trivial) hΦ hRr ho hno hall (hs i o ho hiL) fun a' w' h' =>ih _ _ _ hcnt (fun hx=> ?_) h';exact((on_set (by rw[h.size];exact(Acf.1 ho).1)).1 hx).elim (fun e=>hiL e.symm) hoff
end
section
variable {P : Acg} {n : Nat} {ρ : Ac} {w : AbJ} {Q : BG}
theorem HU{l:List Aca}(L:Nat)(oL:Aca)(ks:Nat->List Nat)(C:Nat->AbJ->Prop)(R:Nat->AbJ->AbJ->Prop)(Φs:List Bu){id:Nat}(hm:P.follows .mixedOrders=true)(ds:List Tmp)(hg:Cy l n=true)(hn:FJ l L=true)(hkl:CY l ks=true)(hds:slotsW l=ds)(hoL:l[L]? =some oL)(hgL:oL.guard=none)(hdL:oL.dst=none) 
  (hC:∀n m,n<l.length->m<l.length->n≠m->((AN l []).getD n 0).testBit m=false->∀w w',C m w->R n w w' ->C m w')
  (hΦ:∀n i,n<l.length->i<l.length->i∉ks n->i≠n->((AN l []).getD i 0).testBit n=false->∀v w w',AT Φs i v w->R n w w' ->AT Φs i v w')
  (hRr:∀n o w,l[n]? =some o->o.guard.isSome=true->R n w w) (h0:∀n,n<l.length->C n { w with drawn:=w.drawn+1 })
  (hs:StepsFL P l L C R (AT Φs) ρ 0 l)
  (hQ:∀(ρ' :Ac) w1,C L w1->EndF ds ρ ρ' ->Bg l ks (AT Φs) ρ' w1 ds->Yk P (fun _ w' =>Q .normal ρ' w') ((execOp (Aa ρ') oL).run P w1)):B1 P n (.region id l.toArray true) Q ρ w:=by
 intro a ha;obtain⟨T,df⟩:=a;have hz:T.size=n:=ha.size;subst hz;obtain⟨hl,hb⟩:=Fq hn;have g:=GU hg;refine wp_region_any hm (Vm (a0:= { tmps:=T,defers:=df }) (C:=C) (R:=R) (Φ:=AT Φs) g hkl hn hoL hgL hdL hC hΦ hRr (fun i o ho hi=> ?_) (fun listed a' w' hon hoff h=> ?_) _ _ _ _ (by simp) ?_ ?_)
 ·have hst:=StepsFL.get l 0 hs i o ho (by omega);rw[Ac2]at hst;have h2:=Abq (P:=P) (l:=l) (C:=C) (R:=R) (Φ:=AT Φs) (T:=T) ha.get [o] i ⟨hst,trivial⟩;exact h2.1
 ·-- what the slots hold
  have hw:∀d k,De l d l.length=some k->(AcZ l.length).all (fun n=> !(ks n).contains k)=true->AT Φs k (a'.tmps.getD d undef) w' :=fun d k hk hall=>by
   obtain⟨h1,⟨o,ho,hd⟩,h3⟩:=Ew _ hk;have hkL:k≠L:=fun e=>by subst e;rw[hoL]at ho;cases ho;rw[hdL]at hd;cases hd
   refine h.new d k o ho hd (hon k h1 hkL) (fun k' o' hkk ho' hd' _=>h3 k' o' hkk (Acf.1 ho').1 ho' hd') (fun n hn hkn=> ?_);have hnl:n<l.length:=by have:=hn.lt;rw[h.size]at this;exact this
   have:=Acx.1 hall n (by simpa using hnl);simp at this;exact this hkn
  have hget:∀t,a'.tmps.getD t undef=if t∈ds then a'.tmps.getD t undef else ρ t:=fun t=>by
   by_cases hn:t∈ds
   ·rw[if_pos hn]
   ·rw[if_neg hn,<-ha.get];exact h.old t fun k o ho hd _=>hn (by
     rw[<-hds];unfold slotsW;rw[Afn,Aef];exact⟨o,AcV ho,hd⟩)
  have hcl:=h.cls L (by omega) hoff;have hend:EndF ds ρ (fun t=>a'.tmps.getD t undef):=⟨fun t ht=>by rw[hget t,if_neg (by simpa using ht)]⟩;have:=hQ (fun t=>a'.tmps.getD t undef) w' hcl hend (Fh hw ds);rw[evalR_eq]at this;refine Yk.mono' this fun v w'' hq=> ?_;exact⟨_,⟨h.tmps,h.defers.trans ha.defers,fun t=>rfl⟩,hq⟩
 ·intro h;unfold On at h;rw[AcC,Adg]at h;split at h <;> simp at h
 ·have hno:∀i,¬On (Adx l.toArray.size false) i:=fun i h=>by
   unfold On at h;rw[AcC,Adg]at h;split at h <;> simp at h
  exact⟨AfW,fun i o _ h=>absurd h (hno i),rfl,rfl,fun n hn _=>h0 n hn,trivial,fun t _=>rfl,fun t k o _ _ h=>absurd h (hno k)⟩
theorem Mx{l:List Aca}(k:Nat)(oL:Aca)(ks:List Nat)(Φs:List Bu){id:Nat}(hm:P.follows .mixedOrders=true)(ds:List Tmp)(hg:Cy l n=true)(hn:FJ l (k+1)=true)(hk:MQ l k=true)(hkl:CY l (fun m=>if m=k then ks else [])=true)(hds:slotsW l=ds) 
  (hoL:l[k+1]? =some oL) (hgL:oL.guard=none) (hdL:oL.dst=none) (hgk:(l[k]?.bind (·.guard))=none) (hst:AllStab Ext (Φs.take k)) (hsT:AllStabX (fun _ _=>True) ks 0 (Φs.take k))
  (hs:StepsFL P l (k+1) (fun m=>if m<=k then Ext w else fun _=>True) (fun m=>if m=k then fun _ _=>True else if m=k+1 then Eq else Ext) (AT Φs) ρ 0 l)
  (hQ:∀(ρ' :Ac) w1,EndF ds ρ ρ' ->Bg l (fun m=>if m=k then ks else []) (AT Φs) ρ' w1 ds->Yk P (fun _ w' =>Q .normal ρ' w') ((execOp (Aa ρ') oL).run P w1)):B1 P n (.region id l.toArray true) Q ρ w:=by
 obtain⟨hl,hb⟩:=Fq hn;have hm1:=MR hk;have take:∀i,i<k->AT Φs i=(Φs.take k).getD i (fun _ _=>True):=fun i hi=>by simp[AT,AbN,hi]
 refine HU (k+1) oL _ _ _ Φs hm ds hg hn hkl hds hoL hgL hdL (fun m i hm' hi hne hbit w1 w' hc hr=> ?_) (fun m i hm' hi hni hne hbit v w1 w' => ?_) (fun m o w1 ho hgo=> ?_) (fun m hm' => ?_) hs (fun ρ' w1 _=>hQ ρ' w1)
 ·by_cases hik:i<=k
  ·rw[if_pos hik]at hc ⊢;by_cases h1:m=k
   ·subst h1;rw[hm1.1 i (by omega)]at hbit;cases hbit
   ·by_cases h2:m=k+1
    ·subst h2;rw[hb i (by omega)]at hbit;cases hbit
    ·rw[if_neg h1,if_neg h2]at hr;exact hc.trans hr
  ·rw[if_neg hik];trivial
 ·by_cases h2:m=k+1
  ·rw[if_neg (by omega),if_pos h2];exact fun h e=>e▸h
  ·by_cases hik:i<k
   ·rw[take i hik];by_cases h1:m=k
    ·rw[if_pos h1]at hni ⊢;exact fun h _=>hsT.get _ 0 i (by rwa [Ac2]) v w1 w' h trivial
    ·rw[if_neg h1,if_neg h2];exact hst.get _ i v w1 w'
   ·exfalso;by_cases hi2:i=k
    ·subst hi2;rw[hm1.1 m (by omega)]at hbit;cases hbit
    ·have:i=k+1:=by omega
     subst this;rw[hb m (by omega)]at hbit;cases hbit
 ·by_cases h1:m=k
  ·subst h1;rw[ho]at hgk;simp only[Ad1]at hgk;rw[hgk]at hgo;cases hgo
  ·by_cases h2:m=k+1
   ·rw[if_neg h1,if_pos h2]
   ·rw[if_neg h1,if_neg h2];exact AaY w1
 ·split
  ·exact(AcB _ _).drew
  ·trivial
theorem My{l:List Aca}(j L:Nat)(oL:Aca)(ks:List Nat)(Rj:AbJ->AbJ->Prop)(Φs:List Bu){id:Nat}(hm:P.follows .mixedOrders=true)(ds:List Tmp)(hg:Cy l n=true)(hn:FJ l L=true)(hkl:CY l (fun m=>if m=j then ks else [])=true)(hds:slotsW l=ds) 
  (hoL:l[L]? =some oL) (hgL:oL.guard=none) (hdL:oL.dst=none) (hjL:j<L) (hgk:(l[j]?.bind (·.guard))=none) (hst:AllStab Ext Φs) (hsR:AllStabX Rj (j :: ks) 0 Φs) (hR:∀a b,Ext w a->Rj a b->Ext w b)
  (hs:StepsFL P l L (fun _=>Ext w) (fun m=>if m=j then Rj else if m=L then Eq else Ext) (AT Φs) ρ 0 l)
  (hQ:∀(ρ' :Ac) w1,Ext w w1->EndF ds ρ ρ' ->Bg l (fun m=>if m=j then ks else []) (AT Φs) ρ' w1 ds->Yk P (fun _ w' =>Q .normal ρ' w') ((execOp (Aa ρ') oL).run P w1)):B1 P n (.region id l.toArray true) Q ρ w:=by
 refine HU L oL _ (fun _=>Ext w) _ Φs hm ds hg hn hkl hds hoL hgL hdL (fun m i hm' hi hne hbit w1 w' hc hr=> ?_) (fun m i hm' hi hni hne hbit v w1 w' => ?_) (fun m o w1 ho hgo=> ?_) (fun m hm' =>(AcB _ _).drew) hs hQ
 ·by_cases h1:m=j
  ·rw[if_pos h1]at hr;exact hR _ _ hc hr
  ·by_cases h2:m=L
   ·rw[if_neg h1,if_pos h2]at hr;exact hr▸hc
   ·rw[if_neg h1,if_neg h2]at hr;exact hc.trans hr
 ·by_cases h1:m=j
  ·rw[if_pos h1]at hni ⊢;exact hsR.get _ 0 i (by rw[Ac2];simp only[Acy,not_or];exact⟨fun e=>hne (e.trans h1.symm),hni⟩) v w1 w'
  ·by_cases h2:m=L
   ·rw[if_neg h1,if_pos h2];exact fun h e=>e▸h
   ·rw[if_neg h1,if_neg h2];exact hst.get _ i v w1 w'
 ·by_cases h1:m=j
  ·subst h1;rw[ho]at hgk;simp only[Ad1]at hgk;rw[hgk]at hgo;cases hgo
  ·by_cases h2:m=L
   ·rw[if_neg h1,if_pos h2]
   ·rw[if_neg h1,if_neg h2];exact AaY w1
end
def Yp(P:Acg)(K:AbI->AbJ->Prop)(J:List PanicEntry->AbJ->Prop):AgG Next->Prop
 | .ok (.value v) w=>K v w
 | .ok .skip w=>K undef w
 | .ok (.enter f args) w=>Calls P f args w fun e w' =>match e with | .returned v=>K v w' | .panicked ch=>J ch w' | .outgrown=>False
 | .halt (.panic v) w=>J [{ v,recovered:=false }] w
 | _=>False
section
variable {P : Acg} {n : Nat} {Q : BG} {ρ : Ac} {w : AbJ}
theorem Yp.ofK{K:AbI->AbJ->Prop}{J:List PanicEntry->AbJ->Prop}{r:AgG Next}(h:Yk P K r):Yp P K J r:=by
 unfold Yk at h;split at h
 ·exact h
 ·exact h
 ·exact h.mono fun e w' hx=>by
   obtain⟨v,rfl,hk⟩:=hx;exact hk
 ·exact h.elim
theorem oP{ops:Array Aca}{rest:List Aca}{dst:Option Tmp}{op:Op}{ty:AbQ}{pos:String}{af:Array AcI}(hd:(match dst with | some d=>AdY d n | none=>true)=true) 
  (h:Yp P (fun v w' =>CC P ops n Q rest (updO ρ dst v) w') (fun ch w' =>Q (.panic ch) ρ w') ((execOp (Aa ρ) ⟨dst,op,ty,pos,af,none⟩).run P w)):CC P ops n Q (⟨dst,op,ty,pos,af,none⟩ :: rest) ρ w:=by
 intro a ha;have hdn:∀t,dst=some t->t<n:=fun t ht=>by subst ht;exact Ab2 hd
 refine wpList_plain rfl fun K hK=> ?_;unfold Aex AeL;rw[ha.eval];have hput:=fun v=>ha.put dst hdn v
 revert h
 generalize (execOp (Aa ρ) ⟨dst,op,ty,pos,af,none⟩).run P w=r
 intro h
 match r,h with
 | .ok (.value v) w',h=>exact hK _ _ (h _ (hput v))
 | .ok .skip w',h=>exact hK _ _ (h _ (hput undef))
 | .halt (.panic v) w',h=>exact⟨ρ,ha,h⟩
 | .ok (.enter f args) w',h=>
  refine AeN h ?_;intro e w'' hx
  match e,hx with
  | .returned v,hx=>exact hK _ _ (hx _ (hput v))
  | .panicked ch,hx=>exact⟨ρ,ha,hx⟩
theorem Yp.call{f:AdB}{args:Array AbV}{at_:Array AbQ}{dst:Option Tmp}{ty:AbQ}{pos:String}{af:Array AcI}{gd:Option (Nat × Bool)}{K:AbI->AbJ->Prop}{J:List PanicEntry->AbJ->Prop}(hp:Plain P f)(vs:List AbI)(hv:args.toList.map (Aa ρ)=vs) 
  (h:Calls P f vs.toArray w fun e w' =>match e with | .returned v=>K v w' | .panicked ch=>J ch w' | .outgrown=>False):Yp P K J ((execOp (Aa ρ) ⟨dst, .call ⟨.value (.func f),args,at_⟩,ty,pos,af,gd⟩).run P w):=by
 subst hv;have hr:=H7 hp (Aa ρ) args.toList at_ dst ty pos af gd w rfl;rw[Array.toArray_toList]at hr;rw[hr];exact h
theorem Aq{f:AdB}{args:Array AbI}{K:AbI->AbJ->Prop}{J:List PanicEntry->AbJ->Prop}{A:AbI->AbJ->Prop}{B:List PanicEntry->AbJ->Prop}(h:Calls P f args w fun e w' =>(∃v,e = .returned v/\A v w')\/∃ch,e = .panicked ch/\B ch w') 
  (hA:∀v w',A v w' ->K v w') (hB:∀ch w',B ch w' ->J ch w'):Calls P f args w fun e w' =>match e with | .returned v=>K v w' | .panicked ch=>J ch w' | .outgrown=>False:=
 h.mono fun e w' hx=>by
  rcases hx with ⟨v,rfl,h1⟩ | ⟨ch,rfl,h1⟩
  ·exact hA v w' h1
  ·exact hB ch w' h1
theorem Yp.panic{dst:Option Tmp}{ty:AbQ}{pos:String}{af:Array AcI}{gd:Option (Nat × Bool)}{K:AbI->AbJ->Prop}{J:List PanicEntry->AbJ->Prop}{x:AbV}{u:AbQ}{v:AbI}(hx:Aa ρ x = .iface u v)(h:J [{ v:= .iface u v,recovered:=false }] w):
  Yp P K J ((execOp (Aa ρ) ⟨dst, .panic x,ty,pos,af,gd⟩).run P w):=by
 have hr:(execOp (Aa ρ) ⟨dst, .panic x,ty,pos,af,gd⟩).run P w = .halt (.panic (.iface u v)) w:=by
  simp[execOp,hx,Instr.panic,goPanic]
 rw[hr];exact h
def Cz(P:Acg)(fn:Func)(R:Ending->AbJ->Prop):BG
 | .normal,ρ,w | .ret,ρ,w=>∀tmps:Array AbI,(∀t,tmps.getD t undef=ρ t)->∃v,(results fn tmps).run P w = .ok v w/\R (.returned v) w
 | .panic ch,_,w=>R (.panicked ch) w
 | _,_,_=>False
theorem Id{f:AdB}{fn:Func}{c:Code}{args:List AbI}{R:Ending->AbJ->Prop}(hf:P.funcs[f]? =some fn)(hb:fn.body=some c)(m:Nat)(hm:fn.ntmps=m)(hn:args.length<=m) 
  (h:∀ρ,Begun args ρ->B1 P m c (Cz P fn R) ρ w):Calls P f args.toArray w R:=by
 subst hm;refine calls_of_wp hf hb ?_;have hget:∀t,(args.toArray++Adx (fn.ntmps-args.toArray.size) undef).getD t undef=args.getD t undef:=fun t=>by
  simp only[AcC,AbN,Array.getElem?_append,Ab4,AcN];by_cases ht:t<args.length
  ·rw[if_pos ht]
  ·rw[if_neg ht,AcR (by omega),Adg];split <;> rfl
 refine wp_mono (h (fun t=>args.getD t undef) ⟨fun _=>rfl⟩ _ ⟨?_,rfl,hget⟩) ?_
 ·simp;omega
 ·rintro e a' w' ⟨ρ',hf',hQ⟩;have fin:(∀tmps:Array AbI,(∀t,tmps.getD t undef=ρ' t)->∃v,(results fn tmps).run P w' = .ok v w' /\R (.returned v) w')->a'.defers= []/\∃v,(results fn a'.tmps).run P w' = .ok v w' /\R (.returned v) w' :=
   fun h=>⟨hf'.defers,h a'.tmps hf'.get⟩
  cases e with
  | normal=>exact fin hQ
  | ret=>exact fin hQ
  | panic ch=>exact⟨hf'.defers,hQ⟩
  | exit _=>exact hQ.elim
  | goto _=>exact hQ.elim
  | outgrown=>exact hQ.elim
theorem CK{fn:Func}{R:Ending->AbJ->Prop}(rs:List ResultVar)(hrs:fn.results=rs.toArray)(vs:List AbI)(v:AbI)(hv:GW vs=v)(h:F5 P ρ w rs vs)(hR:R (.returned v) w):Cz P fn R .ret ρ w:=
 fun _ ht=>⟨_,Hg hrs ht h,by rw[hv];exact hR⟩
theorem LE{fn:Func}{R:Ending->AbJ->Prop}(rs:List ResultVar)(hrs:fn.results=rs.toArray)(vs:List AbI)(v:AbI)(hv:GW vs=v)(h:F5 P ρ w rs vs)(hR:R (.returned v) w):Cz P fn R .normal ρ w:=
 fun _ ht=>⟨_,Hg hrs ht h,by rw[hv];exact hR⟩
theorem Au{fn:Func}{R:Ending->AbJ->Prop}{ch:List PanicEntry}(h:R (.panicked ch) w):Cz P fn R (.panic ch) ρ w:=h
end
theorem JC{G:Bool}{v x:AbI}(hx:x=cond G v undef)(h:G=true):x=v:=by rw[hx,h];rfl
theorem U4{a:Bool}(h:a=false):(!a)=true:=by rw[h];rfl
theorem gT{x:AbI}{c:Bool}(h:x = .bool c):c=true↔x = .bool true:=by
 subst h;exact⟨fun h=>by rw[h],fun h=>by injection h⟩
theorem gF{x:AbI}{c:Bool}(h:x = .bool c):(!c)=true↔x = .bool false:=by
 subst h;cases c <;> simp
theorem PL{o:Aca}{ops:Array Aca}{T:Array AbI}{g d:Nat}{want:Bool}(hgd:o.guard=some (g,want))(hg:(ops[g]?).bind (·.dst)=some d)(h:T.getD d undef ≠ .bool want):Ac8 o (yielded ops T)=false:=by
 simp only[Ac8,hgd,yielded,hg];rw[AcC]at h;cases hx:T[d]? with
 | none=>simp[hx]
 | some x=>
  rw[hx]at h;cases x <;> simp[hx]
  rename_i b
  intro hb;exact h (by simp[hb])
section
variable {P : Acg} {n : Nat} {Q : BG} {ρ : Ac} {w : AbJ} {K : AbI -> AbJ -> Prop} {d : Option Tmp} {ty : AbQ} {pos : String} {af : Array AcI} {gd : Option (Nat × Bool)}
theorem Yk.mono{K' :AbI->AbJ->Prop}{r:AgG Next}(h:Yk P K r)(hk:∀v w,K v w->K' v w):Yk P K' r:=by
 match r,h with
 | .ok (.value v) w,h=>exact hk _ _ h
 | .ok .skip w,h=>exact hk _ _ h
 | .ok (.enter f args) w,h=>exact AeN h (fun e w ⟨v,a,h⟩=>⟨v,a,hk _ _ h⟩)
abbrev Aby:=@Yk.mono
theorem Rd{ops:Array Aca}{rest:List Aca}{dst:Option Tmp}{op:Op}{g:Nat}{want:Bool}{t:Tmp}{G:Bool}(R:AbI->AbJ->Prop)(hd:(match dst with | some d=>AdY d n | none=>true)=true)(hg:(ops[g]?).bind (·.dst)=some t)(hG:G=true↔ρ t = .bool want) 
  (h1:G=true->Yk P R ((execOp (Aa ρ) ⟨dst,op,ty,pos,af,some (g,want)⟩).run P w))
  (h2:∀x w',(G=true->R x w')->(G=false->x=undef/\w' =w)->CC P ops n Q rest (updO ρ dst x) w'):CC P ops n Q (⟨dst,op,ty,pos,af,some (g,want)⟩ :: rest) ρ w:=by
 cases hb:G with
 | true=>
  refine oY hd hg (hG.1 hb) (Aby (h1 hb) ?_);intro x w' h;exact h2 x w' (fun _=>h) (fun e=>by rw[hb]at e;cases e)
 | false=>
  intro a ha;have hdn:∀t,dst=some t->t<n:=fun t ht=>by subst ht;exact Ab2 hd
  have hw:Ac8 ⟨dst,op,ty,pos,af,some (g,want)⟩ (yielded ops a.tmps)=false:=PL rfl hg (fun e=>by
   have:=hG.2 ((ha.get t).symm.trans e);rw[hb]at this;cases this)
  refine wpList_step fun K hK=> ?_;rw[if_neg (by rw[hw];simp)];exact hK _ _ (h2 undef w (fun e=>by rw[hb]at e;cases e) (fun _=>⟨rfl,rfl⟩) _ (ha.put dst hdn undef))
theorem DY{ops:Array Aca}{rest:List Aca}{dst:Option Tmp}{op:Op}{g:Nat}{want:Bool}{t:Tmp}{G:Bool}(v:AbI)(hd:(match dst with | some d=>AdY d n | none=>true)=true)(hg:(ops[g]?).bind (·.dst)=some t)(hG:G=true↔ρ t = .bool want) 
  (h1:G=true->Yk P (fun x w' =>x=v/\w' =w) ((execOp (Aa ρ) ⟨dst,op,ty,pos,af,some (g,want)⟩).run P w))
  (h2:CC P ops n Q rest (updO ρ dst (cond G v undef)) w):CC P ops n Q (⟨dst,op,ty,pos,af,some (g,want)⟩ :: rest) ρ w:=by
 refine Rd _ hd hg hG h1 fun x w' k1 k2=> ?_;cases hb:G with
 | true=>obtain⟨rfl,rfl⟩:=k1 hb;rw[hb]at h2;exact h2
 | false=>obtain⟨rfl,rfl⟩:=k2 hb;rw[hb]at h2;exact h2
theorem Z3{c x y:AbV}{a b:Bool}(hc:Aa ρ c = .bool a)(hx:a=true->Aa ρ x = .bool b)(hy:Aa ρ y = .bool false)(hk:K (.bool (a&&b)) w):Yk P K ((execOp (Aa ρ) ⟨d, .pick c x y,ty,pos,af,gd⟩).run P w):=by
 cases a with
 | true=>exact XY hc (hx rfl) hk
 | false=>exact X2 hc hy hk
theorem Aaj{c x y:AbV}{a b:Bool}(hc:Aa ρ c = .bool a)(hx:Aa ρ x = .bool true)(hy:a=false->Aa ρ y = .bool b)(hk:K (.bool (a||b)) w):Yk P K ((execOp (Aa ρ) ⟨d, .pick c x y,ty,pos,af,gd⟩).run P w):=by
 cases a with
 | true=>exact XY hc hx hk
 | false=>exact X2 hc (hy rfl) hk
theorem ZP{c x y:AbV}{a b:Bool}(hc:Aa ρ c = .bool a)(hx:a=true->Aa ρ x = .bool b)(hy:Aa ρ y = .bool false)(hk:∀r,r=(a&&b)->K (.bool r) w):Yk P K ((execOp (Aa ρ) ⟨d, .pick c x y,ty,pos,af,gd⟩).run P w):=Z3 hc hx hy (hk _ rfl)
theorem Zn{c x y:AbV}{a b:Bool}(hc:Aa ρ c = .bool a)(hx:Aa ρ x = .bool true)(hy:a=false->Aa ρ y = .bool b)(hk:∀r,r=(a||b)->K (.bool r) w):Yk P K ((execOp (Aa ρ) ⟨d, .pick c x y,ty,pos,af,gd⟩).run P w):=Aaj hc hx hy (hk _ rfl)
variable {l : List Aca} {Φ : Nat -> Bu}
end
theorem Zj{P:Acg}{K K' :AbI->AbJ->Prop}{J J' :List PanicEntry->AbJ->Prop}{r:AgG Next}(h:Yp P K J r)(hm:∀v w,K v w->K' v w)(hj:∀c w,J c w->J' c w):Yp P K' J' r:=by
 match r,h with
 | .ok (.value v) w',h=>exact hm _ _ h
 | .ok .skip w',h=>exact hm _ _ h
 | .halt (.panic v) w',h=>exact hj _ _ h
 | .ok (.enter f args) w',h=>
  refine AeN h fun e w'' hx=> ?_
  match e,hx with
  | .returned v,hx=>exact hm _ _ hx
  | .panicked ch,hx=>exact hj _ _ hx
def MJ(l:List Aca)(k:Nat):Bool:=(AcZ l.length).all fun i=>AdY i k||(AcZ i).all fun m=>((AN l []).getD i 0).testBit m
theorem Re{l:List Aca}{k:Nat}(h:MJ l k=true):∀i,k<=i->i<l.length->∀m,m<i->((AN l []).getD i 0).testBit m=true:=fun i hi hl m hm=>by
 unfold MJ at h;have h1:=Acx.1 h i (by simpa using hl);rcases Ad7 _ _▸h1 with h2 | h2
 ·have:=Ab2 h2;omega
 ·exact Acx.1 h2 m (by simpa using hm)
section
variable {P : Acg} {l : List Aca} {kill : Nat -> List Nat} {C : Nat -> AbJ -> Prop} {R : Nat -> AbJ -> AbJ -> Prop} {Φ : Nat -> Bu} {a0 : Act}
def StepsFC(P:Acg)(l:List Aca)(L:Nat)(C:Nat->AbJ->Prop)(R:Nat->AbJ->AbJ->Prop)(Φ:Nat->Bu)(ρ:Ac):Nat->List Aca->Prop
 | _,[]=>True
 | n,o :: r=>(bif Agb L n then True else Fi P l C R Φ ρ n o)/\StepsFC P l L C R Φ ρ (n+1) r
theorem MX{L n:Nat}{ρ:Ac}{o:Aca}(h:Fi P l C R Φ ρ n o):bif Agb L n then True else Fi P l C R Φ ρ n o:=by
 cases Agb L n
 ·exact h
 ·trivial
theorem StepsFC.get{L:Nat}{ρ:Ac}:∀(r:List Aca) (n:Nat),StepsFC P l L C R Φ ρ n r->∀k o,r[k]? =some o->n+k<L->Fi P l C R Φ ρ (n+k) o
 | [],_,_,k,o,h,_=>by simp at h
 | o' :: r,n,hs,0,o,h,hne=>by
  simp only[Ad8,Adw]at h;subst h;have h1:=hs.1;rw[show Agb L n=false by rw[<-AfN];exact fun x=>by have:=Ab2 x;omega]at h1;exact h1
 | o' :: r,n,hs,k+1,o,h,hne=>by
  rw[Adl]at h;have:=StepsFC.get r (n+1) hs.2 k o h (by omega)
  rwa [show n+1+k=n+(k+1) by omega]at this
theorem MY{z:Nat}(g:H5 l z){k:Nat}(ht:∀i,k<=i->i<l.length->∀m,m<i->((AN l []).getD i 0).testBit m=true){Q:Aet->Act->AbJ->Prop}:
  ∀(fuel m:Nat) (listed:Array Bool) (a:Act) (w:AbJ),listed.size=l.length->(∀i,On listed i↔i<m)->k<=m->m<=l.length->l.length<=m+fuel->wpList P l.toArray Q (l.drop m) a w->wpAny P .any l.toArray Q fuel listed a w:=by
 have noReady:∀(m:Nat) (listed:Array Bool),listed.size=l.length->(∀i,On listed i↔i<m)->l.length<=m->Adf .any l.toArray listed= []:=by
  intro m listed hsz hon hm;cases hr:Adf .any l.toArray listed with
  | nil=>rfl
  | cons x xs=>
   exfalso;have hmem:x∈Adf .any l.toArray listed:=by rw[hr];simp
   obtain⟨h1,o,ho,_⟩:=mem_ready.1 hmem;have hx:x<l.length:=by simpa using (Ace.1 ho).1
   have h2:=(hon x).2 (by omega);have hx' :x<listed.size:=h2.lt;unfold On at h2;simp[hx']at h1 h2;rw[h1]at h2;cases h2
 intro fuel
 induction fuel with
 | zero=>
  intro m listed a w hsz hon hk hm hf hw;rw[AcU (by omega)]at hw;exact⟨noReady m listed hsz hon (by omega),hw⟩
 | succ fuel ih=>
  intro m listed a w hsz hon hk hm hf hw;by_cases hml:m=l.length
  ·have hr:=noReady m listed hsz hon (by omega);rw[AcU (by omega)]at hw;exact⟨fun _=>hw,fun i hi=>by rw[hr]at hi;cases hi⟩
  ·have hlt:m<l.length:=by omega
   have hoff:¬On listed m:=fun x=>by have:=(hon m).1 x;omega
   have hI:Inv l (fun _=> []) (fun _ _=>True) (fun _ _=>True) (fun _ _ _=>True) a listed a w:=
    ⟨hsz,fun i o ho hi e he hb=>(hon _).2 (by have:=g.back i o ho e he hb;have:=(hon i).1 hi;omega),rfl,rfl,fun _ _ _=>trivial,trivial,fun _ _=>rfl,fun _ _ _ _ _ _ _ _=>trivial⟩
   refine⟨fun hr=> ?_,fun i hi=> ?_⟩
   ·exfalso;have ho:l[m]? =some l[m]:=AbT hlt;have:m∈Adf .any l.toArray listed:=by
     refine mem_ready.2 ⟨?_,l[m],by rw[AcN];exact ho,fun e he hb=>(hon _).2 (g.back m _ ho e he hb)⟩;have hm' :m<listed.size:=by omega
     unfold On at hoff;simp[hm']at hoff ⊢;exact hoff
    rw[hr]at this;cases this
   ·obtain⟨h1,o,ho,hall⟩:=mem_ready.1 hi;have ho' :l[i]? =some o:=by simpa using ho
    have hil:i<l.length:=(Acf.1 ho').1;have hno:¬On listed i:=fun x=>by
     have hx:i<listed.size:=by omega
     unfold On at x;simp[hx]at h1 x;rw[h1]at x;cases x
    have him:i=m:=by
     by_cases h2:i<m
     ·exact absurd ((hon i).2 h2) hno
     ·by_cases h3:i=m
      ·exact h3
      ·exact absurd (hI.maskReady ho' (fun e he hb=>hall e he hb) (ht i (by omega) hil m (by omega))) hoff
    subst him;rw[List.drop_eq_getElem_cons hlt]at hw;obtain rfl:l[i]=o:=by rw[AbT hlt]at ho';exact Acu ho'
    have nxt:∀a' w',wpList P l.toArray Q (l.drop (i+1)) a' w' ->wpAny P .any l.toArray Q fuel (listed.setIfInBounds i true) a' w' :=fun a' w' hw' =>
     ih (i+1) _ a' w' (by simpa using hsz) (fun j=>by rw[on_set (by omega),hon j];omega) (by omega) (by omega) (by omega) hw'
    unfold wpOp;simp only[AcN,ho'];unfold wpList at hw;split at hw
    ·rename_i hwt
     rw[if_pos hwt];exact hw.imp (fun h=>Oper.wp_mono nxt h) (fun h=>h)
    ·rename_i hwt
     rw[if_neg hwt];exact nxt _ _ hw
theorem Vn{E:Array Bool->AbJ->Prop}(hE:∀n listed w w',n<l.length->listed.size=l.length->¬On listed n->(∀i k,On listed i\/i=n->((AN l []).getD i 0).testBit k=true->On listed k)->E listed w->R n w w' ->E (listed.setIfInBounds n true) w')(g:H5 l a0.tmps.size)(hkl:CY l kill=true){k:Nat}(ht:∀i,k<=i->i<l.length->∀m,m<i->((AN l []).getD i 0).testBit m=true)(hk:k<=l.length) 
  (hC:∀n m,n<l.length->m<l.length->n≠m->((AN l []).getD n 0).testBit m=false->∀w w',C m w->R n w w' ->C m w') (hΦ:∀n i,n<l.length->i<l.length->i∉kill n->i≠n->((AN l []).getD i 0).testBit n=false->∀v w w',Φ i v w->R n w w' ->Φ i v w') (hRr:∀n o w,l[n]? =some o->o.guard.isSome=true->R n w w) (hs:∀i o,l[i]? =some o->i<k->GS P l C R Φ a0.tmps i o) {Q:Aet->Act->AbJ->Prop}
  (hQ:∀listed a' w',(∀i,On listed i↔i<k)->Inv l kill C E Φ a0 listed a' w' ->wpList P l.toArray Q (l.drop k) a' w'):
  ∀(fuel:Nat) (listed:Array Bool) (a:Act) (w:AbJ),(listed.toList.filter (!·)).length=fuel->(∀i,On listed i->i<k)->Inv l kill C E Φ a0 listed a w->wpAny P .any l.toArray Q fuel listed a w:=by
 intro fuel
 induction fuel with
 | zero=>
  intro listed a w hf hoff h;have full:∀i,i<l.length->On listed i:=fun i hi=>by
   have:=EP _ hf i (by rw[AdK,h.size];omega);unfold On;simp at this;simp[this]
  have hkl' :k=l.length:=by
   by_cases e:k=l.length
   ·exact e
   ·have:=hoff k (full k (by omega));omega
  exact MY g ht 0 k listed a w h.size (fun i=>⟨hoff i,fun hi=>full i (by omega)⟩) (AbO _) hk (by omega) (hQ listed a w (fun i=>⟨hoff i,fun hi=>full i (by omega)⟩) h)
 | succ fuel ih=>
  intro listed a w hf hoff h;by_cases hfull:∀i,i<k->On listed i
  ·have hon:∀i,On listed i↔i<k:=fun i=>⟨hoff i,hfull i⟩;refine MY g ht (fuel+1) k listed a w h.size hon (AbO _) hk ?_ (hQ listed a w hon h);have e:=List.take_append_drop k listed.toList;rw[<-e,List.filter_append,AbP]at hf;have c:(listed.toList.drop k).filter (!·)=listed.toList.drop k:=List.filter_eq_self.2 fun b hb=>by
    obtain⟨j,hj,rfl⟩:=List.getElem_of_mem hb;rw[List.getElem_drop];have hno:¬On listed (k+j):=fun x=>by have:=hoff _ x;omega
    rw[Ab6]at hj;have hlt:k+j<listed.size:=by rw[<-AdK];omega
    unfold On at hno;simp[hlt]at hno;simp[hno]
   rw[c,Ab6]at hf;have hz:listed.toList.length=l.length:=by rw[AdK];exact h.size
   omega
  ·have hlow:∃j,j<k/\¬On listed j:=by
    refine AdA fun hn=>hfull fun i hi=>AdA fun hx=>hn ⟨i,hi,hx⟩
   obtain⟨j0,hj0,hoff0⟩:=hlow;refine⟨fun hr=> ?_,fun i hi=> ?_⟩
   ·exfalso;have full:∀i,i<l.length->On listed i:=by
     intro i
     induction i using Aek with
     | _ i ih2=>
      intro hi;refine AdA fun hno=> ?_;have ho:l[i]? =some l[i]:=AbT hi;have:i∈Adf .any l.toArray listed:=by
       refine mem_ready.2 ⟨?_,l[i],by rw[AcN];exact ho,fun e he hb=> ?_⟩
       ·have hi' :i<listed.size:=by rw[h.size];exact hi
        unfold On at hno;simp[hi']at hno ⊢;exact hno
       ·have hlt:=g.back i _ ho e he hb;exact ih2 e.on hlt (by omega)
      rw[hr]at this;cases this
    exact hoff0 (full j0 (by omega))
   ·obtain⟨h1,o,ho,hall0⟩:=mem_ready.1 hi;have ho' :l[i]? =some o:=by simpa using ho
    have hilt:i<l.length:=(Acf.1 ho').1;have hil:i<listed.size:=by rw[h.size];exact hilt
    have hno:¬On listed i:=by
     unfold On;simp[hil]at h1 ⊢;exact h1
    have hall:∀e∈o.after,Adb .any e=true->On listed e.on:=fun e he hb=>hall0 e he hb;have hik:i<k:=by
     by_cases h2:i<k
     ·exact h2
     ·exact absurd (h.maskReady ho' hall (ht i (by omega) hilt j0 (by omega))) hoff0
    have hcnt:((listed.setIfInBounds i true).toList.filter (!·)).length=fuel:=by
     rw[Aen];have:=Fp listed.toList i (by
      simp[hil]at h1;simp[hil,h1])
     omega
    refine h.step g hkl hC hE hΦ hRr ho' hno hall (hs i o ho' hik) fun a' w' h' =>ih _ _ _ hcnt (fun j hx=> ?_) h';rcases(on_set hil).1 hx with rfl | h3
    ·exact hik
    ·exact hoff j h3
end
section
variable {P : Acg} {n : Nat} {ρ : Ac} {w : AbJ} {Q : BG}
theorem Mz{l r:List Aca}(k0:Nat)(ks:Nat->List Nat)(C:Nat->AbJ->Prop)(R:Nat->AbJ->AbJ->Prop)(E:Array Bool->AbJ->Prop)(Φs:List Bu){id:Nat}(hm:P.follows .mixedOrders=true)(ds:List Tmp)(hg:Cy l n=true)(hn:MJ l k0=true)(c:Agb Φs.length k0=true)(hkl:CY l ks=true)(hds:slotsW l=ds)(hr:(l.drop k0)=r) 
  (hC:∀n m,n<l.length->m<l.length->n≠m->((AN l []).getD n 0).testBit m=false->∀w w',C m w->R n w w' ->C m w')
  (hΦ:∀n i,n<l.length->i<l.length->i∉ks n->i≠n->((AN l []).getD i 0).testBit n=false->∀v w w',AT Φs i v w->R n w w' ->AT Φs i v w')
  (hE:∀n listed w w',n<l.length->listed.size=l.length->¬On listed n->(∀i k,On listed i\/i=n->((AN l []).getD i 0).testBit k=true->On listed k)->E listed w->R n w w' ->E (listed.setIfInBounds n true) w') (f:E (Adx l.toArray.size false) { w with drawn:=w.drawn+1 })
  (hRr:∀n o w,l[n]? =some o->o.guard.isSome=true->R n w w) (h0:∀n,n<l.length->C n { w with drawn:=w.drawn+1 })
  (hs:StepsFC P l k0 C R (AT Φs) ρ 0 l)
  (hlt:AdY k0 l.length=true) (hQ:∀(ρ' :Ac) w1 listed,(∀i,On listed i↔i<k0)->E listed w1->C k0 w1->EndF ds ρ ρ' ->Bg l ks (AT Φs) ρ' w1 ds->CC P l.toArray n Q r ρ' w1):B1 P n (.region id l.toArray true) Q ρ w:=by
 intro a ha;obtain⟨T,df⟩:=a;have hz:T.size=n:=ha.size;subst hz;have b:k0<l.length:=Ab2 hlt;have g:=GU hg;refine wp_region_any hm (Vn hE (a0:= { tmps:=T,defers:=df }) (C:=C) (R:=R) (Φ:=AT Φs) g hkl (Re hn) (Nat.le_of_lt b) hC hΦ hRr (fun i o ho hi=> ?_) (fun listed a' w' hon h=> ?_) _ _ _ _ (by simp) ?_ ?_)
 ·have hst:=StepsFC.get l 0 hs i o ho (by omega);rw[Ac2]at hst;have h2:=Abq (P:=P) (l:=l) (C:=C) (R:=R) (Φ:=AT Φs) (T:=T) ha.get [o] i ⟨hst,trivial⟩;exact h2.1
 ·-- what the slots hold
  have hw:∀d k,De l d l.length=some k->(AcZ l.length).all (fun n=> !(ks n).contains k)=true->AT Φs k (a'.tmps.getD d undef) w' :=fun d k hk hall=>by
   obtain⟨h1,⟨o,ho,hd'⟩,h3⟩:=Ew _ hk;by_cases hkL:k0<=k
   ·have e:AT Φs k=fun _ _=>True:=by
     have:=Ab2 c;unfold AT;rw[AbN,AcR (by omega)];rfl
    rw[e];trivial
   refine h.new d k o ho hd' ((hon k).2 (by omega)) (fun k' o' hkk ho' hd'' _=>h3 k' o' hkk (Acf.1 ho').1 ho' hd'') (fun n hn hkn=> ?_);have hnl:n<l.length:=by have:=hn.lt;rw[h.size]at this;exact this
   have:=Acx.1 hall n (by simpa using hnl);simp at this;exact this hkn
  have hget:∀t,a'.tmps.getD t undef=if t∈ds then a'.tmps.getD t undef else ρ t:=fun t=>by
   by_cases hn:t∈ds
   ·rw[if_pos hn]
   ·rw[if_neg hn,<-ha.get];exact h.old t fun k o ho hd _=>hn (by
     rw[<-hds];unfold slotsW;rw[Afn,Aef];exact⟨o,AcV ho,hd⟩)
  have hcl:=h.cls k0 b (fun x=>by have:=(hon k0).1 x;omega);have hend:EndF ds ρ (fun t=>a'.tmps.getD t undef):=⟨fun t ht=>by rw[hget t,if_neg (by simpa using ht)]⟩;have:=hQ (fun t=>a'.tmps.getD t undef) w' listed hon h.ecl hcl hend (Fh hw ds);rw[hr];exact this a' ⟨h.tmps,h.defers.trans ha.defers,fun t=>rfl⟩
 ·intro i h;unfold On at h;rw[AcC,Adg]at h;split at h <;> simp at h
 ·have hno:∀i,¬On (Adx l.toArray.size false) i:=fun i h=>by
   unfold On at h;rw[AcC,Adg]at h;split at h <;> simp at h
  exact⟨AfW,fun i o _ h=>absurd h (hno i),rfl,rfl,fun n hn _=>h0 n hn,f,fun t _=>rfl,fun t k o _ _ h=>absurd h (hno k)⟩
end
def FL(l:List Aca)(i:Nat):Option Tmp:=l[i]?.bind (·.dst)
def U5:List Tmp->Bool
 | []=>true
 | a :: r=> !r.contains a&&U5 r
theorem C0{ρ:Ac}{d:Tmp}{v:AbI}:updO ρ (some d) v=MU ρ d v:=rfl
theorem Ie{ρ:Ac}{d:Tmp}{v:AbI}:MU ρ d v d=v:=by simp[MU]
theorem F6{ρ:Ac}{d t:Tmp}{v:AbI}(h:t≠d):MU ρ d v t=ρ t:=by
 have:Aea t d=false:=by rw[<-AfN,Nat.beq_eq];exact h
 simp[MU,this]
theorem FM{ρ σ:Ac}{o:Aca}{ops:Array Aca}(hs:∀cs b,o.op ≠ .select cs b)(h:∀t∈o.looksAt ops,σ t=ρ t):execOp (Aa σ) o=execOp (Aa ρ) o:=
 execOp_congr o hs fun x hx=>by
  cases x with
  | tmp t=>exact h t (Aeu _ (Aef.2 ⟨.tmp t,by simpa using hx,rfl⟩))
  | _=>rfl
section
variable {P : Acg} {n : Nat} {ρ : Ac} {w : AbJ} {Q : BG} {l : List Aca} {fs : List (Nat × Tmp × AbI)} {cs : List Nat} {I : AbJ -> Prop}
theorem MZ{a:Act}{o:Aca}{K:Act->AbJ->Prop}{Q' :Aet->Act->AbJ->Prop}(h:Yk P (fun v w' =>K (a.put o.dst v) w') ((execOp a.eval o).run P w)):o.wp P a w K Q' :=by
 unfold Aex AeL
 revert h
 generalize (execOp a.eval o).run P w=r
 intro h
 match r,h with
 | .ok (.value v) w',h=>exact h
 | .ok .skip w',h=>exact h
 | .ok (.enter f args) w',h=>
  refine AeN h ?_;rintro e w'' ⟨v,rfl,hk⟩;exact hk
theorem MA{a:Act}{o:Aca}{K:Act->AbJ->Prop}{Q' :Aet->Act->AbJ->Prop}{J:List PanicEntry->AbJ->Prop}(h:Yp P (fun v w' =>K (a.put o.dst v) w') J ((execOp a.eval o).run P w))(hJ:∀ch w',J ch w' ->Q' (.panic ch) a w'):o.wp P a w K Q' :=by
 unfold Aex AeL
 revert h
 generalize (execOp a.eval o).run P w=r
 intro h
 match r,h with
 | .ok (.value v) w',h=>exact h
 | .ok .skip w',h=>exact h
 | .halt (.panic v) w',h=>exact hJ _ _ h
 | .ok (.enter f args) w',h=>
  refine AeN h ?_;intro e w'' hx
  match e,hx with
  | .returned v,hx=>exact hx
  | .panicked ch,hx=>exact hJ _ _ hx
theorem LF:∀ {l:List Tmp},U5 l=true->l.Nodup
 | [],_=>List.nodup_nil
 | a :: r,h=>by
  unfold U5 at h;rw[AcQ]at h;refine AdX.2 ⟨fun hm=> ?_,LF h.2⟩;have:=h.1;rw[AdM.2 hm]at this;cases this
end
def looksL(l:List Aca)(j:Nat):List Tmp:=match l[j]? with
 | some q=>q.looksAt l.toArray
 | none=> []
def DK(l:List Aca)(j:Nat):Bool:=match l[j]? with
 | some q=>q.guard.isSome
 | none=>true
def ET(l:List Aca)(pf:List Nat)(j:Nat):Bool:=pf.contains j||(match l[j]? with
 | some q=>(match q.op with | .move _ | .assign _=>true | _=>false)
 | none=>false)
def PM(l:List Aca)(m:List Nat)(cs pf fl pre:List Nat)(i:Nat):Bool:=match l[i]? with
 | none=>false
 | some o=>
  (match o.op with | .select .. =>false | _=>true) &&
  ((AcZ l.length).all (fun j=> !(m.getD i 0).testBit j||pre.contains j) &&
  (pre.all (fun j=> !cs.contains j||(m.getD i 0).testBit j) &&
  ((!cs.contains i||pre.all fun j=>cs.contains j||(ET l pf j||(fl.contains j||(m.getD i 0).testBit j))) &&
  ((pre.all fun j=>(cs.contains j&& !DK l j)||((cs.contains i&&(o.guard.isNone&&(m.getD i 0).testBit j))||(match o.dst with | some d=> !(looksL l j).contains d&&FL l j != some d | none=>true))) &&
  ((cs.contains i&&o.guard.isNone)||(match o.dst with | some d=> !(o.looksAt l.toArray).contains d | none=>cs.contains i))))))
def Kg(l:List Aca)(m:List Nat)(cs pf fl:List Nat):List Nat->List Nat->Bool
 | _,[]=>true
 | pre,i :: r=>PM l m cs pf fl pre i&&Kg l m cs pf fl (i :: pre) r
def Hj(l:List Aca)(cs pf fl ord:List Nat):Bool:=U5 ord&&((AcZ l.length).all (fun i=>ord.contains i)&&Kg l (AN l []) cs pf fl [] ord)
def PN(l:List Aca)(fl r:List Nat)(i:Nat):Bool:=fl.all fun j=>r.contains j||((AN l []).getD i 0).testBit j
def Ld(l:List Aca)(pf fl:List Nat)(I:AbJ->Prop)(w:AbJ)(i:Nat)(w' :AbJ):Prop:=ET l pf i=true\/(if i∈fl then I w' else w' =w)
def DR(P:Acg)(l:List Aca)(cs pf fl:List Nat)(J:List PanicEntry->AbJ->Prop)(K:Ac->AbJ->Prop):List Nat->(AbJ->Prop)->Ac->AbJ->Prop
 | [],_,ρ,w=>K ρ w
 | i :: r,I,ρ,w=>match l[i]? with
  | none=>False
  | some o=>if Bv l o ρ=false then DR P l cs pf fl J K r I (updO ρ o.dst undef) w
   else if i∈cs then Yp P (fun v w' =>∃I' :AbJ->Prop,I' w' /\((∀x,I' x->I x)\/PN l fl r i=true)/\DR P l cs pf fl J K r I' (updO ρ o.dst v) w') J ((execOp (Aa ρ) o).run P w)
   else ∃v,(∀w',Ld l pf fl I w i w' ->Yk P (fun x w'' =>x=v/\w'' =w') ((execOp (Aa ρ) o).run P w'))/\DR P l cs pf fl J K r I (updO ρ o.dst v) w
structure MixAt (l : List Aca) (cs pf fl u : List Nat) (i : Nat) (o : Aca) : Prop where
 sel:∀cs b,o.op ≠ .select cs b
 lin:∀j,j<l.length->((AN l []).getD i 0).testBit j=true->j∈u
 chain:∀j∈u,j∈cs->((AN l []).getD i 0).testBit j=true
 loc:i∈cs->∀j∈u,j∉cs->ET l pf j=true\/j∈fl\/((AN l []).getD i 0).testBit j=true
 sep:∀j∈u,j∉cs\/DK l j=true->i∉cs\/DK l i=true\/((AN l []).getD i 0).testBit j=false->∀d,o.dst=some d->d∉looksL l j/\FL l j≠some d
 own:i∉cs\/o.guard.isSome=true->∀d,o.dst=some d->d∉o.looksAt l.toArray
 has:i∉cs->∃d,o.dst=some d
theorem Vo{l:List Aca}{cs pf fl u:List Nat}{i:Nat}(h:PM l (AN l []) cs pf fl u i=true):∃o,l[i]? =some o/\MixAt l cs pf fl u i o:=by
 unfold PM at h;cases ho:l[i]? with
 | none=>rw[ho]at h;cases h
 | some o=>
  rw[ho]at h;simp only[AcQ]at h;obtain⟨h1,h2,h3,h4,h5,h6⟩:=h;refine⟨o,rfl,⟨fun c b e=> ?_,fun j hj hb=> ?_,fun j hj hc=> ?_,fun hi j hj hc=> ?_,fun j hj hc hx d hd=> ?_,fun hi d hd=> ?_,fun hi=> ?_⟩⟩
  ·rw[e]at h1;cases h1
  ·have:=Acx.1 h2 j (by simpa using hj);rw[hb]at this
   simpa using this
  ·have:=Acx.1 h3 j hj;rw[AdM.2 hc]at this
   simpa using this
  ·rw[AdM.2 hi]at h4;have h4:∀x,x∈u->x∈cs\/ET l pf x=true\/x∈fl\/((AN l [])[i]?.getD 0).testBit x=true:=by simpa using h4
   have:=h4 j hj
   simpa [hc] using this
  ·have:=Acx.1 h5 j hj;rw[hd]at this;have hf:(cs.contains j&& !DK l j)=false:=by
    rcases hc with hc | hc
    ·have:cs.contains j=false:=by simpa using hc
     rw[this];rfl
    ·rw[hc];simp
   have hf2:(cs.contains i&&(o.guard.isNone&&((AN l []).getD i 0).testBit j))=false:=by
    rcases hx with hx | hx | hx
    ·have:cs.contains i=false:=by simpa using hx
     rw[this];rfl
    ·unfold DK at hx;rw[ho]at hx;cases hg:o.guard with
     | none=>simp only[hg]at hx;cases hx
     | some g=>simp
    ·rw[hx];simp
   rw[hf,hf2]at this
   simpa using this
  ·have hf:(cs.contains i&&o.guard.isNone)=false:=by
    rcases hi with hi | hi
    ·have:cs.contains i=false:=by simpa using hi
     rw[this];rfl
    ·cases hg:o.guard with
     | none=>rw[hg]at hi;cases hi
     | some g=>simp
   rw[hf,hd]at h6
   simpa using h6
  ·have hf:cs.contains i=false:=by simpa using hi
   rw[hf]at h6;cases hd:o.dst with
   | none=>rw[hd]at h6;simp at h6
   | some d=>exact⟨d,rfl⟩
theorem LG{l:List Aca}{m cs pf fl:List Nat}:∀ {pre:List Nat} (u:List Nat) {i:Nat} {v:List Nat},Kg l m cs pf fl pre (u++i :: v)=true->PM l m cs pf fl (u.reverse++pre) i=true
 | pre,[],i,v,h=>by
  unfold Kg at h;rw[AcO,AcQ]at h;exact h.1
 | pre,x :: u,i,v,h=>by
  rw[AcM]at h;unfold Kg at h;rw[AcQ]at h;have:=LG u h.2
  simpa using this
theorem MixAt.perm{l:List Aca}{cs pf fl u v:List Nat}{i:Nat}{o:Aca}(e:∀x,x∈u↔x∈v)(h:MixAt l cs pf fl u i o):MixAt l cs pf fl v i o:=
 ⟨h.sel,fun j a b=>(e j).1 (h.lin j a b),fun j a=>h.chain j ((e j).2 a),fun a j b=>h.loc a j ((e j).2 b),fun j a=>h.sep j ((e j).2 a),h.own,h.has⟩
theorem Kh{l:List Aca}{cs pf fl u v:List Nat}{i:Nat}(h:Hj l cs pf fl (u++i :: v)=true):∃o,l[i]? =some o/\MixAt l cs pf fl u i o:=by
 unfold Hj at h;rw[AcQ,AcQ]at h;obtain⟨o,ho,k⟩:=Vo (LG u h.2.2);exact⟨o,ho,k.perm (by simp)⟩
theorem EC{l:List Aca}{o:Aca}{ρ σ:Ac}(h:∀t∈o.looksAt l.toArray,σ t=ρ t):Bv l o σ=Bv l o ρ:=by
 unfold Bv;cases hg:o.guard with
 | none=>rfl
 | some g=>
  obtain⟨g,want⟩:=g;simp only;cases hd:(l[g]?).bind (·.dst)with
  | none=>rfl
  | some t=>
   simp only;rw[h t (by
    unfold Oper.looksAt;refine AdL _ ?_;rw[hg];simp[hd])]
theorem Tf{a b:List Nat}{x:Nat}(h:(a++b).Nodup)(ha:x∈a)(hb:x∈b):False:=(AdU.1 h).2.2 x ha x hb rfl
theorem Ou{a b c d:List Nat}{x:Nat}(h:(a++x :: b).Nodup)(e:a++x :: b=c++x :: d):a=c:=by
 induction a generalizing c with
 | nil=>
  cases c with
  | nil=>rfl
  | cons y c=>
   simp only[AcO,AcM,List.cons.injEq]at e;obtain⟨rfl,e⟩:=e;rw[AcO]at h;exact absurd (by rw[e];simp) (AdX.1 h).1
 | cons y a ih=>
  cases c with
  | nil=>
   simp only[AcO,AcM,List.cons.injEq]at e;obtain⟨rfl,e⟩:=e;rw[AcM]at h;exact absurd (by simp) (AdX.1 h).1
  | cons z c=>
   simp only[AcM,List.cons.injEq]at e;obtain⟨rfl,e⟩:=e;rw[AcM]at h;rw[ih (AdX.1 h).2 e]
section
variable {P : Acg} {n : Nat} {ρ : Ac} {w : AbJ} {Q : BG} {l : List Aca} {cs pf fl ord : List Nat} {I : AbJ -> Prop} {J : List PanicEntry -> AbJ -> Prop} {K : Ac -> AbJ -> Prop}
def Pend(P:Acg)(l:List Aca)(cs pf fl:List Nat)(I:AbJ->Prop)(ρ:Ac)(w:AbJ)(i:Nat):Prop:=
 ∃o,l[i]? =some o/\(i∉cs\/DK l i=true)/\(∀d,o.dst=some d->d∉o.looksAt l.toArray)/\(∀cs b,o.op ≠ .select cs b) /\
  (Bv l o ρ=false/\(∀d,o.dst=some d->ρ d=undef) \/
   Bv l o ρ=true/\i∉cs/\∃d,o.dst=some d/\∀w',Ld l pf fl I w i w' ->Yk P (fun x w'' =>x=ρ d/\w'' =w') ((execOp (Aa ρ) o).run P w'))
theorem Pend.upd{ρ' :Ac}{i:Nat}(h:Pend P l cs pf fl I ρ w i)(hl:∀t∈looksL l i,ρ' t=ρ t)(hd:∀t,FL l i=some t->ρ' t=ρ t):Pend P l cs pf fl I ρ' w i:=by
 obtain⟨o,ho,h1,h2,h3,h4⟩:=h;have hl' :∀t∈o.looksAt l.toArray,ρ' t=ρ t:=fun t ht=>hl t (by unfold looksL;rw[ho];exact ht);have hd' :∀t,o.dst=some t->ρ' t=ρ t:=fun t ht=>hd t (by unfold FL;rw[ho];exact ht);refine⟨o,ho,h1,h2,h3,?_⟩;rw[EC hl'];rcases h4 with ⟨a,b⟩ | ⟨a,b,d,hd0,c⟩
 ·exact .inl ⟨a,fun d hd0=>(hd' d hd0).trans (b d hd0)⟩
 ·refine .inr ⟨a,b,d,hd0,?_⟩;rw[hd' d hd0,FM h3 hl'];exact c
structure MInv (P : Acg) (l : List Aca) (cs pf fl ord : List Nat) (n : Nat) (J : List PanicEntry -> AbJ -> Prop) (K : Ac -> AbJ -> Prop) (u r : List Nat) (I : AbJ -> Prop) (ρ : Ac) (listed : Array Bool) (a : Act) (w : AbJ) : Prop where
 size:listed.size=l.length
 closed:∀i o,l[i]? =some o->On listed i->∀e∈o.after,Adb .any e=true->On listed e.on
 tmps:a.tmps.size=n
 defers:a.defers= []
 split:ord=u++r
 rest:∀i∈r,¬On listed i
 pend:∀i∈u,¬On listed i->Pend P l cs pf fl I ρ w i
 agree:∀t,(∀i∈u,¬On listed i->FL l i≠some t)->a.tmps.getD t undef=ρ t
 holds:I w
 run:DR P l cs pf fl J K r I ρ w
theorem MInv.place(hb:Hj l cs pf fl ord=true){listed:Array Bool}{a:Act}:∀(r u:List Nat) (ρ:Ac),MInv P l cs pf fl ord n J K u r I ρ listed a w ->
  ∃u' r' ρ',MInv P l cs pf fl ord n J K u' r' I ρ' listed a w/\(r' = []\/∃c q o,r' =c :: q/\c∈cs/\l[c]? =some o/\Bv l o ρ' =true)
 | [],u,ρ,h=>⟨u,[],ρ,h, .inl rfl⟩
 | i :: r,u,ρ,h=>by
  obtain⟨o,ho,hm⟩:=Kh (h.split▸hb);have hrun:=h.run;unfold DR at hrun;rw[ho]at hrun;simp only at hrun;have hno:¬On listed i:=h.rest i (by simp);have next:∀(v:AbI),(i∉cs\/DK l i=true)->(∀d,o.dst=some d->d∉o.looksAt l.toArray)->Pend P l cs pf fl I (updO ρ o.dst v) w i->DR P l cs pf fl J K r I (updO ρ o.dst v) w->MInv P l cs pf fl ord n J K (u++ [i]) r I (updO ρ o.dst v) listed a w:=fun v hg hown hp hr=>by
   have hne:∀t,o.dst≠some t->updO ρ o.dst v t=ρ t:=fun t ht=>by
    cases hd:o.dst with
    | none=>rfl
    | some d=>rw[C0,F6 (fun e=>ht (by rw[hd,e]))]
   refine⟨h.size,h.closed,h.tmps,h.defers,by rw[h.split];simp,fun j hj=>h.rest j (by simp[hj]),fun j hj hnj=> ?_,fun t ht=> ?_,h.holds,hr⟩
   ·rcases Acb.1 hj with hj | hj
    ·have hpj:=h.pend j hj hnj;obtain⟨oj,hoj,hcj,-⟩:=hpj;have hg' :i∉cs\/DK l i=true\/((AN l []).getD i 0).testBit j=false:=hg.elim .inl fun x=> .inr (.inl x);refine(h.pend j hj hnj).upd (fun t ht=>hne t fun e=>(hm.sep j hj hcj hg' t e).1 ht) fun t ht=>hne t fun e=>(hm.sep j hj hcj hg' t e).2 ht
    ·rw[AbW.1 hj];exact hp
   ·have h1:=h.agree t fun j hj=>ht j (by simp[hj]);rw[h1,hne t fun e=>ht i (by simp) hno (by unfold FL;rw[ho];exact e)]
  by_cases hw:Bv l o ρ=false
  ·rw[if_pos hw]at hrun;have hgs:o.guard.isSome=true:=by
    cases hg:o.guard with
    | none=>unfold Bv at hw;rw[hg]at hw;cases hw
    | some g=>rfl
   have hgb:DK l i=true:=by unfold DK;rw[ho];exact hgs
   have hown:=hm.own (.inr hgs);refine MInv.place hb r (u++ [i]) _ (next undef (.inr hgb) hown ⟨o,ho, .inr hgb,hown,hm.sel, .inl ⟨?_,fun d hd=>by rw[hd,C0,Ie]⟩⟩ hrun);rw[<-hw];refine EC fun t ht=> ?_;cases hd:o.dst with
   | none=>rfl
   | some d=>rw[C0,F6 (fun e=>hown d hd (by rw[<-e];exact ht))]
  ·rw[if_neg hw]at hrun;have hwt:Bv l o ρ=true:=by simpa using hw
   by_cases hc:i∈cs
   ·exact⟨u,i :: r,ρ,h, .inr ⟨i,r,o,rfl,hc,ho,hwt⟩⟩
   ·rw[if_neg hc]at hrun;obtain⟨v,hv,hrun⟩:=hrun;have hown:=hm.own (.inl hc);obtain⟨d,hd⟩:=hm.has hc;have hag:∀t∈o.looksAt l.toArray,updO ρ o.dst v t=ρ t:=fun t ht=>by rw[hd,C0,F6 (fun e=>hown d hd (by rw[<-e];exact ht))]
    refine MInv.place hb r (u++ [i]) _ (next v (.inl hc) hown ⟨o,ho, .inl hc,hown,hm.sel, .inr ⟨by rw[EC hag];exact hwt,hc,d,hd,?_⟩⟩ hrun);rw[FM hm.sel hag];intro w' hw';rw[show updO ρ o.dst v d=v by rw[hd,C0,Ie]];exact hv w' hw'
theorem Vp(hg:Cy l n=true)(hb:Hj l cs pf fl ord=true):
  ∀(fuel:Nat) (listed:Array Bool) (a:Act) (w:AbJ) (u r:List Nat) (I:AbJ->Prop) (ρ:Ac),(listed.toList.filter (!·)).length=fuel->MInv P l cs pf fl ord n (fun ch w' =>∀ρ',Q (.panic ch) ρ' w') (fun ρ w=>Q .normal ρ w) u r I ρ listed a w->(r= []\/∃c q o,r=c :: q/\c∈cs/\l[c]? =some o/\Bv l o ρ=true) ->
   wpAny P .any l.toArray (fun e a' w' =>∃ρ',Fits n ρ' a' /\Q e ρ' w') fuel listed a w:=by
 have g:=GU hg;have hall:∀i,i<l.length->i∈ord:=fun i hi=>by
  unfold Hj at hb;rw[AcQ,AcQ]at hb
  simpa using Acx.1 hb.2.1 i (by simpa using hi)
 have hnd:ord.Nodup:=by
  unfold Hj at hb;rw[AcQ]at hb;exact LF hb.1
 have hlt:∀(i:Nat) (o:Aca),l[i]? =some o->i<l.length:=fun i o ho=>(Acf.1 ho).1
 -- all are done
 have fin:∀(listed:Array Bool) (a:Act) (w:AbJ) (u r:List Nat) (I:AbJ->Prop) (ρ:Ac),MInv P l cs pf fl ord n (fun ch w' =>∀ρ',Q (.panic ch) ρ' w') (fun ρ w=>Q .normal ρ w) u r I ρ listed a w->(r= []\/∃c q o,r=c :: q/\c∈cs/\l[c]? =some o/\Bv l o ρ=true)->(∀i,i<l.length->On listed i)->∃ρ',Fits n ρ' a/\Q .normal ρ' w:=fun listed a w u r I ρ h hr hon=>by
  rcases hr with rfl | ⟨c,q,o,rfl,-,ho,-⟩
  ·refine⟨ρ,⟨h.tmps,h.defers,fun t=>h.agree t fun i hi hni=> ?_⟩,h.run⟩;obtain⟨o,ho,-⟩:=h.pend i hi hni;exact absurd (hon i (hlt i o ho)) hni
  ·exact absurd (hon c (hlt c o ho)) (h.rest c (by simp))
 intro fuel
 induction fuel with
 | zero=>
  intro listed a w u r I ρ hfu h hr;have full:∀i,i<l.length->On listed i:=fun i hi=>by
   have:=EP _ hfu i (by rw[AdK,h.size];omega);unfold On;simp at this;simp[this]
  refine⟨?_,fin listed a w u r I ρ h hr full⟩;cases hrd:Adf .any l.toArray listed with
  | nil=>rfl
  | cons x xs=>
   exfalso;have hmem:x∈Adf .any l.toArray listed:=by rw[hrd];simp
   obtain⟨h1,o,ho,_⟩:=mem_ready.1 hmem;have hx:x<l.length:=by simpa using (Ace.1 ho).1
   have h2:=full x hx;have hx' :x<listed.size:=h2.lt;unfold On at h2;simp[hx']at h1 h2;rw[h1]at h2;cases h2
 | succ fuel ih=>
  intro listed a w u r I ρ hfu h hr;refine⟨fun hrd=>fin listed a w u r I ρ h hr fun i=> ?_,fun i hi=> ?_⟩
  ·induction i using Aek with
   | _ i ih2=>
    intro hi;refine AdA fun hno=> ?_;have ho:l[i]? =some l[i]:=AbT hi;have:i∈Adf .any l.toArray listed:=by
     refine mem_ready.2 ⟨?_,l[i],by rw[AcN];exact ho,fun e he hb=> ?_⟩
     ·have hi' :i<listed.size:=by rw[h.size];exact hi
      unfold On at hno;simp[hi']at hno ⊢;exact hno
     ·have hlt:=g.back i _ ho e he hb;exact ih2 e.on hlt (by omega)
    rw[hrd]at this;cases this
  ·obtain⟨h1,o,ho,hall0⟩:=mem_ready.1 hi;have ho' :l[i]? =some o:=by simpa using ho
   have hilt:i<l.length:=hlt i o ho';have hil:i<listed.size:=by rw[h.size];exact hilt
   have hno:¬On listed i:=by
    unfold On;simp[hil]at h1 ⊢;exact h1
   have hball:∀e∈o.after,Adb .any e=true->On listed e.on:=fun e he hb=>hall0 e he hb;have hI:Inv l (fun _=> []) (fun _ _=>True) (fun _ _=>True) (fun _ _ _=>True) a listed a w:=
    ⟨h.size,h.closed,rfl,rfl,fun _ _ _=>trivial,trivial,fun _ _=>rfl,fun _ _ _ _ _ _ _ _=>trivial⟩
   have hmr:∀k,((AN l []).getD i 0).testBit k=true->On listed k:=fun k hk=>hI.maskReady ho' hball hk;have hcnt:((listed.setIfInBounds i true).toList.filter (!·)).length=fuel:=by
    rw[Aen];have:=Fp listed.toList i (by
     simp[hil]at h1;simp[hil,h1])
    omega
   have hcl:∀j oj,l[j]? =some oj->On (listed.setIfInBounds i true) j->∀e∈oj.after,Adb .any e=true->On (listed.setIfInBounds i true) e.on:=fun j oj hj hon e he hb=>by
    rcases(on_set hil).1 hon with rfl | hon
    ·obtain rfl:o=oj:=by rw[ho']at hj;exact Acu hj
     exact(on_set hil).2 (.inr (hball e he hb))
    ·exact(on_set hil).2 (.inr (h.closed j oj hj hon e he hb))
   have hF:Fits n (fun t=>a.tmps.getD t undef) a:=⟨h.tmps,h.defers,fun t=>rfl⟩;have hroom:∀t,o.dst=some t->t<n:=fun t ht=>g.room i o t ho' ht;have hio:i∈ord:=hall i hilt;rw[h.split]at hio;have hun:∀j,¬On (listed.setIfInBounds i true) j->¬On listed j/\j≠i:=fun j hj=>⟨fun x=>hj ((on_set hil).2 (.inr x)),fun x=>hj ((on_set hil).2 (.inl x))⟩
   -- where it stands in the order
   have hwhere:∃b f,ord=b++i :: f/\(i∈r->b=u/\r=i :: f)/\(i∈u->∀j∈u,j∈b\/j=i\/j∈f):=by
    by_cases hir:i∈r
    ·rcases hr with rfl | ⟨c,q,oc,rfl,hc,hoc,-⟩
     ·cases hir
     ·have:i=c:=by
       rcases Acy.1 hir with x | x
       ·exact x
       ·exfalso;obtain⟨q1,q2,hq⟩:=Aej x;have hb' :=hb;rw[h.split,hq,show u++c :: (q1++i :: q2)=(u++c :: q1)++i :: q2 by simp]at hb';obtain⟨o2,m,hm⟩:=Kh hb';exact h.rest c (by simp) (hmr c (hm.chain c (by simp) hc))
      subst this;exact⟨u,q,h.split,fun _=>⟨rfl,rfl⟩,fun _ j hj=> .inl hj⟩
    ·have hiu:i∈u:=(Acb.1 hio).elim id fun x=>absurd x hir;obtain⟨b,z,hu⟩:=Aej hiu;exact⟨b,z++r,by rw[h.split,hu];simp,fun x=>absurd x hir,fun _ j hj=>by rw[hu]at hj;simp at hj ⊢;rcases hj with x | x | x <;> simp[x]⟩
   obtain⟨b,f,hord,hin,hiu1⟩:=hwhere;obtain⟨o2,m,hm⟩:=Kh (hord▸hb);obtain rfl:o=o2:=by rw[ho']at m;exact Acu m
   -- what it looks at is as in the order that is walked
   have hlook:∀t∈o.looksAt l.toArray,a.tmps.getD t undef=ρ t:=fun t ht=>h.agree t fun q hq hnq e=>by
    obtain⟨oq,hoq,hcq,hownq,-⟩:=h.pend q hq hnq;have hdq:oq.dst=some t:=by unfold FL at e;rw[hoq]at e;exact e
    rcases Nat.lt_trichotomy q i with hqi | hqi | hqi
    ·exact hnq (hmr q (g.tied i o q oq t ho' hoq hqi (.inl ⟨hdq,AdL _ ht⟩)))
    ·subst hqi;rw[ho']at hoq;cases hoq;exact hownq t hdq ht
    ·-- it is bound ahead of q, which stands behind it
     have hmq:=g.tied q oq i o t hoq ho' hqi (.inr ⟨hdq,AdL _ ht⟩);have hqo:q∈ord:=by rw[h.split];simp[hq]
     obtain⟨p1,p2,hp⟩:=Aej hqo;obtain⟨oq2,hoq2,hmq2⟩:=Kh (hp▸hb);rw[hoq]at hoq2;cases hoq2;have hip:=hmq2.lin i hilt hmq;by_cases hic:i∈cs/\DK l i=false
     ·-- a chain's operation that has no guard and is still to come stands behind all that is walked
      have hir:i∈r:=(Acb.1 hio).elim (fun x=>by
       obtain⟨oi,hoi,hci,-⟩:=h.pend i x hno;rcases hci with y | y
       ·exact absurd hic.1 y
       ·rw[hic.2]at y;cases y) id
      obtain⟨e1,-⟩:=hin hir;have hdis:i∉u:=fun x=>by
       have:=h.split▸hnd;exact Tf this x hir
      -- p1 lies within u
      obtain⟨s1,s2,hs⟩:=Aej hq;have p:p1=s1:=by
       have hx:p1++q :: p2=s1++q :: (s2++r):=by rw[<-hp,h.split,hs];simp
       exact Ou (hp▸hnd) hx
      rw[p]at hip;exact hdis (by rw[hs];simp[hip])
     ·have:=(hmq2.sep i hip (by
       by_cases hx:i∈cs
       ·right;cases hy:DK l i with
        | true=>rfl
        | false=>exact absurd ⟨hx,hy⟩ hic
       ·exact .inl hx) (hcq.elim .inl fun x=> .inr (.inl x)) t hdq).1
      exact this (by unfold looksL;rw[ho'];exact ht)
   have hwa:Ac8 o (yielded l.toArray a.tmps)=Bv l o ρ:=by
    rw[<-LC a o,EC hlook]
   unfold wpOp;simp only[AcN,ho'];by_cases hir:i∈r
   ·-- the chain's next operation
    obtain⟨rfl,p⟩:=hin hir;rcases hr with rfl | ⟨c,q,oc,rfl,hc,hoc,hwc⟩
    ·cases hir
    obtain⟨rfl,rfl⟩:c=i/\q=f:=by simpa using p
    rw[ho']at hoc;cases hoc;rw[hwa,hwc,if_pos rfl];have hrun:=h.run;unfold DR at hrun;rw[ho']at hrun;simp only at hrun;rw[if_neg (by rw[hwc];simp),if_pos hc]at hrun;refine .inl (MA (J:=fun ch w' =>∀ρ',Q (.panic ch) ρ' w') ?_ fun ch w' h=>⟨_,hF,h _⟩);rw[hF.eval,FM (ρ:=ρ) hm.sel hlook];refine Zj hrun ?_ fun _ _ h=>h;rintro v w' ⟨I',hI',hII,hrun'⟩;have hne:∀t,o.dst≠some t->updO ρ o.dst v t=ρ t:=fun t ht=>by
     cases hd:o.dst with
     | none=>rfl
     | some d=>rw[C0,F6 (fun e=>ht (by rw[hd,e]))]
    have h0:MInv P l cs pf fl ord n (fun ch w' =>∀ρ',Q (.panic ch) ρ' w') (fun ρ w=>Q .normal ρ w) (b++ [c]) q I' (updO ρ o.dst v) (listed.setIfInBounds c true) (a.put o.dst v) w' :=by
     refine⟨by simpa using h.size,hcl,(hF.put o.dst hroom _).size,(hF.put o.dst hroom _).defers,by rw[hord];simp,fun j hj hx=> ?_,fun j hj hnj=> ?_,fun t ht=> ?_,hI',hrun'⟩
     ·rcases(on_set hil).1 hx with rfl | hx
      ·have:=hord▸hnd;exact(AdX.1 (AdU.1 this).2.1).1 hj
      ·exact h.rest j (by simp[hj]) hx
     ·obtain⟨hnj,hjc⟩:=hun j hnj;have hju:j∈b:=(Acb.1 hj).elim id fun x=>absurd (AbW.1 x) hjc;obtain⟨oj,hoj,hcj,hownj,hselj,hpj⟩:=h.pend j hju hnj;have hup:Pend P l cs pf fl I' ρ w' j:=by
       refine⟨oj,hoj,hcj,hownj,hselj,?_⟩;rcases hpj with x | ⟨x1,x2,d,x3,x4⟩
       ·exact .inl x
       ·refine .inr ⟨x1,x2,d,x3,fun w2 hw2=> ?_⟩;rcases hm.loc hc j hju x2 with hjp | hjf | hjm
        ·exact x4 w2 (.inl hjp)
        ·refine x4 w2 (hw2.elim .inl fun hw2=> .inr ?_);rw[if_pos hjf]at hw2 ⊢;rcases hII with hII | hclr
         ·exact hII _ hw2
         ·exfalso;have:=Acx.1 hclr j hjf;rw[Ad7]at this;rcases this with y | y
          ·have hz:=hord▸hnd;have hy:j∈c :: q:=by simp at y;simp[y]
           exact Tf hz hju hy
          ·exact hnj (hmr j y)
        ·exact absurd (hmr j hjm) hnj
      have hmj:((AN l []).getD c 0).testBit j=false:=by
       cases hx:((AN l []).getD c 0).testBit j with
       | false=>rfl
       | true=>exact absurd (hmr j hx) hnj
      exact hup.upd (fun t ht=>hne t fun e=>(hm.sep j hju hcj (.inr (.inr hmj)) t e).1 ht) fun t ht=>hne t fun e=>(hm.sep j hju hcj (.inr (.inr hmj)) t e).2 ht
     ·rw[(hF.put o.dst hroom _).get t];have hag:(∀j∈b,¬On listed j->FL l j≠some t)->a.tmps.getD t undef=ρ t:=fun hx=>h.agree t hx;have hag' :=hag fun j hj hnj=>ht j (by simp[hj]) fun x=>by
       rcases(on_set hil).1 x with rfl | x
       ·have hz:=hord▸hnd;exact Tf hz hj (by simp)
       ·exact hnj x
      cases hd:o.dst with
      | none=>exact hag'
      | some d=>
       rw[C0,C0];by_cases e:t=d
       ·subst e;rw[Ie,Ie]
       ·rw[F6 e,F6 e];exact hag'
    obtain⟨u',r',ρ',hp,hr'⟩:=h0.place hb;exact ih _ _ _ u' r' I' ρ' hcnt hp hr'
   ·-- one that was walked
    have hiu:i∈u:=(Acb.1 hio).elim id fun x=>absurd x hir;obtain⟨o3,s,hci,hown,hsel,hp⟩:=h.pend i hiu hno;rw[ho']at s;cases s;have next:∀v,(∀d,o.dst=some d->v=ρ d)->wpAny P .any l.toArray (fun e a' w' =>∃ρ',Fits n ρ' a' /\Q e ρ' w') fuel (listed.setIfInBounds i true) (a.put o.dst v) w:=fun v hv=>by
     refine ih _ _ _ u r I ρ hcnt ⟨by simpa using h.size,hcl,(hF.put o.dst hroom _).size,(hF.put o.dst hroom _).defers,h.split,fun j hj hx=> ?_,fun j hj hnj=>h.pend j hj (hun j hnj).1,fun t ht=> ?_,h.holds,h.run⟩ hr
     ·rcases(on_set hil).1 hx with rfl | hx
      ·exact hir hj
      ·exact h.rest j hj hx
     ·rw[(hF.put o.dst hroom _).get t];by_cases e:o.dst=some t
      ·rw[e,C0,Ie];exact hv t e
      ·have hx:updO (fun t=>a.tmps.getD t undef) o.dst v t=a.tmps.getD t undef:=by
        cases hd:o.dst with
        | none=>rfl
        | some d=>rw[C0,F6 (fun x=>e (by rw[hd,x]))]
       rw[hx];refine h.agree t fun j hj hnj=> ?_;by_cases hji:j=i
       ·subst hji;unfold FL;rw[ho'];exact e
       ·exact ht j hj fun x=>by
         rcases(on_set hil).1 x with x | x
         ·exact hji x
         ·exact hnj x
    rcases hp with ⟨x1,x2⟩ | ⟨x1,x2,d,x3,x4⟩
    ·rw[hwa,x1,if_neg (by simp)];exact next undef fun d hd=>(x2 d hd).symm
    ·rw[hwa,x1,if_pos rfl];refine .inl (MZ ?_);rw[hF.eval,FM (ρ:=ρ) hsel hlook];refine Aby (x4 w (.inr (by split <;> first | exact h.holds | rfl))) ?_;rintro v w' ⟨rfl,rfl⟩;exact next _ fun d' hd' =>by rw[x3]at hd';cases hd';rfl
end
def Never{α:Type}(x:Sem α):Prop:=∀(P:Acg) (w:AbJ) (a:α) (w' :AbJ),x.run P w ≠ .ok a w'
def Steady{α:Type}(x:Sem α):Prop:=∀(P:Acg) (w:AbJ) (a:α) (w' :AbJ),x.run P w = .ok a w' ->w' =w/\∀w2,x.run P w2 = .ok a w2
theorem Never.steady{α:Type}{x:Sem α}(h:Never x):Steady x:=fun P w a w' e=>absurd e (h P w a w')
theorem Steady.pure{α:Type}(a:α):Steady (Pure.pure a:Sem α):=fun P w b w' h=>by
 simp only[Ab1,Result.ok.injEq]at h ⊢;exact⟨h.2.symm,fun _=>⟨h.1,trivial⟩⟩
theorem Steady.bind{α β:Type}{x:Sem α}{f:α->Sem β}(hx:Steady x)(hf:∀a,Steady (f a)):Steady (x >>= f):=fun P w b w' h=>by
 rw[AbY]at h;cases hr:x.run P w with
 | ok a w1=>
  rw[hr,AbU]at h;obtain⟨rfl,h1⟩:=hx P w a w1 hr;obtain⟨rfl,h2⟩:=hf a P w1 b w' h;exact⟨rfl,fun w2=>by rw[AbY,h1 w2,AbU];exact h2 w2⟩
 | halt e w1=>rw[hr]at h;cases h
abbrev AbB:=@Steady.bind
theorem Never.bind{α β:Type}{x:Sem α}{f:α->Sem β}(hf:∀a,Never (f a)):Never (x >>= f):=fun P w b w' h=>by
 rw[AbY]at h;cases hr:x.run P w with
 | ok a w1=>rw[hr,AbU]at h;exact hf a P w1 b w' h
 | halt e w1=>rw[hr]at h;cases h
abbrev Abu:=@Never.bind
theorem Never.halt{α:Type}(e:Halt):Never (Sem.halt e:Sem α):=fun P w a w' h=>by cases h
abbrev Abj:=@Never.halt
theorem GJ{α:Type}(e:RuntimeError):Never (runtimePanic e:Sem α):=Abu fun p=>by
 cases e <;> first | exact Abj _ | exact Abu fun _=>Abu fun _=>Abj _
theorem Steady.program:Steady program:=fun P w a w' h=>by
 have h:AgZ P w=AgZ a w' :=h;cases h;exact⟨rfl,fun _=>rfl⟩
theorem Steady.underlying(t:AbQ):Steady (underlying t):=AbB .program fun p=>by
 cases p.underlying t with
 | none=>exact(Abj _).steady
 | some d=>exact .pure d
theorem Steady.sizeOf(t:AbQ):Steady (sizeOf t):=AbB (AbB .program fun p=>by
 cases p.info? t with
 | none=>exact(Abj _).steady
 | some d=>exact .pure d) fun _=> .pure _
theorem Steady.asIntOf(v:AbI):Steady (asIntOf v):=by
 unfold Go.asIntOf;split
 ·exact .pure _
 ·exact(Abj _).steady
 ·exact(Abj _).steady
theorem Steady.sureAddr(v:AbI):Steady (Ad9 v):=by
 unfold Ad9;split
 ·exact .pure _
 ·exact(Abj _).steady
theorem M0{α:Type}(k:AcK)(x y:Int)(c:BoundsCode):Never (boundsPanic k x y c:Sem α):=by
 unfold boundsPanic
 dsimp only
 split
 ·exact Abu fun s=>GJ _
 ·exact Abu fun s=>GJ _
theorem Steady.indexAt(t:AbQ)(x i:AbI):Steady (Instr.indexAt t x i):=by
 unfold Instr.indexAt
 repeat' first
  | exact Steady.pure _
  | exact(Abj _).steady
  | exact Steady.underlying _
  | exact Steady.sizeOf _
  | exact Steady.asIntOf _
  | exact Steady.sureAddr _
  | exact Steady.asAddr _
  | exact(M0 _ _ _ _).steady
  | exact(GJ _).steady
  | refine AbB ?_ fun _=> ?_
  | split
  | dsimp only
theorem Rf{P:Acg}{K:AbI->AbJ->Prop}{s:Sem AbI}{w:AbJ}(hs:Steady s)(h:Yk P K ((do pure (Next.value (<-s)):Sem Next).run P w)):
  ∃v,K v w/\∀w',Yk P (fun x w'' =>x=v/\w'' =w') ((do pure (Next.value (<-s)):Sem Next).run P w'):=by
 rw[AbY]at h;cases hr:s.run P w with
 | ok a w1=>
  rw[hr,AbU,Ab1]at h;obtain⟨rfl,h1⟩:=hs P w a w1 hr;exact⟨a,h,fun w' =>by rw[AbY,h1 w',AbU,Ab1];exact⟨rfl,rfl⟩⟩
 | halt e w1=>rw[hr]at h;exact h.elim
end Go.Proofs.YtfpekahfdalfkaaGreatDoor
