/- Part 1 of what stands behind these statements: laws and walks of the functions that are reached. Conditions: those that each theorem names. -/
import Derived.WalkKit
import Derived.WalkLawsBesides
import Derived.WalkSpells
import Derived.Deep.AppendSrc
import Derived.Lib.Hide
import Derived.Lib.VarintMem
import Derived.ProofKit
import Derived.OpenShut
import Derived.ShutString
import Derived.JoinedCond
import Derived.Deep.DeepHandedRow
import Derived.Lay
import Derived.Stop.LaidErr
import Derived.Orders
import Derived.Below
import Derived.Laws.IdiomStrings
import Derived.Deep.MidRow
import Derived.Scope
import Derived.Laws.Rows
import Derived.Laws.StructEq
import Derived.Lib.EndianBits
import Derived.Lib.Walk
import Derived.Deep.Slices
import Derived.Recover
import Derived.Laws.RangeAny
import Derived.Lib.Varint
import Derived.DeepKeys4
import Derived.MapKept
import Derived.WideKeyEntry
import Derived.Lib.Bytealg
import Derived.Laws.Externs
import Derived.Lib.AppendZerosOnto
import Derived.Lib.Overlaps
import Derived.Lib.ConvBytes
import Derived.Lib.AtoiErrMem
import Derived.Sort.Walk0
import Derived.Maps.Own
import Derived.Maps.OwnSet
import Derived.Maps.Range
import Derived.Sort.KeysCollected
import Derived.Laws.IdiomRangeMap
import Derived.Shelf.SlMaps.Clone
import Derived.Shelf.SlIter.Nil
import Derived.Shelf.SortM.Plain
import Derived.Shelf.SortM.SortNone
import Derived.Laws.Small
import Derived.Shelf.Small.Strs
import Derived.Defers
import Derived.Test.YtbbbblinjomajaaGreatDoorRows
import Derived.Test.YtbbbblinjomajaaGreatDoorProg
set_option linter.unusedVariables false
set_option linter.unusedSimpArgs false
namespace Go.Proofs.YtbbbblinjomajaaGreatDoor
open _root_.Go renaming Value->Abs,World->Abt,Program->AbN,TypeId->Abz,Oper->AbM,Exit->Aei,Operand->AbD,Result->Af3,Edge->Ack,FuncId->Ade,Func->AdT,Code->Ac7,binOp->Aca,IntKind->AcG,Ending->Adk
open _root_.Go.Lib renaming byteCells->Abv,byteCells_append->Af7,byteCells_length->AbH,uvarint->AbU
open _root_.Array renaming getElem?_eq_some_iff->Acg,length_toList->AcZ,getElem?_eq_none->Ad7,getElem?_setIfInBounds_ne->Adu,getD_eq_getD_getElem?->Aci,toList_setIfInBounds->Aeq,replicate->Adg,getElem?_replicate->Adw
open _root_.Option.some renaming inj->AbX
open _root_.Nat renaming le_trans->Abw,add_mul->AcN,mul_le_mul_right->AdQ,add_zero->AeR,le_refl->Abx,strongRecOn->AeS,zero_add->Adc,min->Ad4,beq->Ae4,eq_of_beq_eq_true->Af4,blt->Adh,le_of_ble_eq_true->AbF,min_eq_left->Ad6,mod_eq_of_lt->AeL,zero_mul->Ad1,add_assoc->AdN,add_sub_cancel_left->AdA,mul_comm->Aft
open _root_.Go.World renaming grownBy_alloc->Agk,ownsRow_nil->Ac1,block_lt_of_cell?->AcL
open _root_.Go.Builtin renaming append_->Ad5,zeroCells->Acp,len_->Agv
open _root_.List renaming length_append->Aby,size_toArray->Ab5,take_left->Ae1,eq_nil_of_length_eq_zero->Acm,length_take->AbR,length_drop->AbS,map_toArray->AbI,map_cons->AbL,map_nil->AbP,mem_map->Acn,getElem?_eq_getElem->AbG,range->AdC,getElem?_eq_none->Ac4,foldl_cons->Aev,getElem?_eq_some_iff->AbW,getD->Agt,getElem?_append_left->AcM,all_eq_true->Acr,mem_zipIdx_iff_getElem?->Ae2,mem_append_right->AcR,mem_append_left->Aej,getElem?_toArray->Acw,mem_filterMap->Afa,map_take->Afd,getElem?_take->Adr,getElem?_drop->AdG,map_drop->Agf,mem_cons->Ab6,mem_cons_of_mem->AcD,range'->Ae6,flatMap_cons->Acl,length_cons->AbK,getElem?_append_right->AcC,getD_eq_getElem?_getD->AbA,getElem_mem->Ada,mem_append->Acf,append_assoc->AbV,take_left'->AcH,not_mem_nil->Acx,length_singleton->Ab7,cons->AfL,nodup_cons->AcI,contains_iff_mem->AcJ,nil_append->Acd,cons_append->Ab2,nodup_append->Adz,mem_singleton->Ab9,append_of_mem->Ac8
open _root_.Go.Value renaming ownBlock->Acb
open _root_.Go.Addr renaming add_lit->AcT,add->AdZ
open _root_.Go.Oper renaming wp->AdJ,upon->AdV
open _root_.Go.Sem renaming run_bind->AbC,run_pure->AbE
open _root_.Go.Result renaming andThen_ok->AbB,andThen->Acj,ok->AfI
open _root_.Go.RowKit.Below renaming refl->Aco
open _root_.Go.IntKind renaming signed->AeC,bits->Adv,wrap->Agw
open _root_.Go.Region renaming binds->AcA,wanted->AcB,ready->AdE
open _root_.Bool renaming or_eq_true->Ac6,and_eq_true->AbY,eq_iff_iff->AdK
open _root_.Go.Instr renaming storeAt->Aer,sureAddr->AdW,sliceAt->AdM,loadAt->Agu,buildSlice->Ab1
open _root_.Option renaming map_some->AcO,map_none->Adl
open _root_.Go.Calls renaming mono->Ado
open _root_.Go.Op renaming equal->Ad8,maxDepth->AeJ,equalIn->Adp,intCmp->Aeh,stringOp->Ae7
open _root_.Int renaming toNat_natCast->AbZ,fdiv_eq_ediv_of_nonneg->Afe
open _root_.BitVec renaming ofNat->Ad0,toNat_ofNat->AeA
abbrev AgP:=List UInt8
open Go.RowKit
/-! Short names for what stands in the walks again and again. -/
abbrev PQ(b o:Nat):Abs:= .pointer (some ⟨b,o,none⟩)
abbrev St(l:AgP):Abs:= .string ⟨l.toArray⟩
abbrev AB(l:AgP):Abs:= .agg (Abv l).toArray
abbrev OB(v:Abs)(g:Nat):Prop:=v.ownBlock≠some g
theorem AL{x v:Abs}(h:x=v):x=v:=h
theorem AN{a b n:Nat}(h:a<b)(e:b=n):a<n:=e▸h
theorem vr{x:Abs}(y:Abs)(h:x=y):x=y:=h
theorem bl{α:Type}{xs:Array α}{i:Nat}{o:α}(h:xs[i]? =some o):i<xs.size:=(Acg.1 h).1
theorem kb{w w' :Abt}{g n:Nat}{o:Obj}(hg:w.grownBy w' (some g))(hb:w.heap[n]? =some o)(h:n≠g):w'.heap[n]? =some o:=(hg.block n (bl hb) (fun e=>h (AbX e))).trans hb

structure Grew (w w' : Abt) (v v' : Abs) : Prop where
 by_:w.grownBy w' v.ownBlock
 fresh:∀k,v'.ownBlock=some k->v.ownBlock=some k\/w.heap.size<=k
theorem Aa{w w1 w2:Abt}{r r1:Option Nat}(h:w.grownBy w1 r)(k:w1.grownBy w2 r1)(hr:∀b,r1=some b->r=some b\/w.heap.size<=b):w.grownBy w2 r:=by
 refine⟨k.os.trans h.os,k.tape.trans h.tape,k.output.trans h.output,Abw h.size k.size,fun i hi hne=> ?_⟩;have h1:=h.size;rw[k.block i (by omega) (fun e=>(hr i e.symm).elim (fun h2=>hne h2.symm) (fun h2=>by omega)),h.block i hi hne]
theorem Grew.eqv{w w' :Abt}{x v v' :Abs}(e:x=v)(h:Grew w w' x v'):Grew w w' v v' :=e▸h
theorem Grew.refl(w:Abt)(v:Abs):Grew w w v v:=⟨World.grownBy.refl _ _,fun _ h=> .inl h⟩
abbrev Abq:=@Grew.refl
theorem Grew.trans{w w1 w2:Abt}{v a c:Abs}(h:Grew w w1 v a)(k:Grew w1 w2 a c):Grew w w2 v c:=
 ⟨Aa h.by_ k.by_ h.fresh,fun b hb=>by
  have h1:=h.by_.size;rcases k.fresh b hb with h2 | h2
  ·exact h.fresh b h2
  ·exact .inr (by omega)⟩
theorem Grew.alloc{w w1:Abt}{v a:Abs}(h:Grew w w1 v a)(o:Obj):Grew w (w1.alloc o) v a:=
 ⟨Aa h.by_ (Agk _ o none) (fun _ e=>by cases e),h.fresh⟩
theorem Grew.drew{w w1:Abt}{v a:Abs}(h:Grew w w1 v a):Grew w w1.drew v a:=
 ⟨⟨h.by_.os,h.by_.tape,h.by_.output,h.by_.size,h.by_.block⟩,h.fresh⟩
section
variable {P : AbN} (w : Abt)
theorem EV(base:Nat)(t tx ty e:Abz)(i:TypeInfo)(z:Abs)(size bytes:Nat)(ht:P.underlying t=some (.slice e))(hi:P.info? e=some i)(hz:i.zero=some z) 
  (hsize:i.size=size) (hby:i.bytes=bytes) (hzs:z.cells.size=size)
  (v:Abs) (n:Nat) (xs:List Abs) (hown:w.ownsRow base e size v n xs)
  (x:Abs) (m:Nat) (news:List Abs) (hs:Src P size tx x m news w)
  (h63:n+m<=maxLen) (hbytes:(n+m)*bytes<=140737488355328) (hbase:base<=w.heap.size):
  ∃v' w',(Ad5 #[t,tx] ty #[v,x]).run P w = .ok v' w' /\w'.ownsRow base e size v' (n+m) (xs++news)/\Grew w w' v v' :=by
 subst hsize;subst hby
 have hsmall:n+m<=9223372036854775807:=by simp only[maxLen]at h63;omega
 have hl:=hs.newsLen;have hlen:(xs++news).length=(n+m)*i.size:=by rw[Aby,hown.1,hl,AcN]
 have grown:∀(old:Nat),old<n+m ->
   (w.drew.alloc (.cells ((xs++news).toArray++Acp z.cells (grownCap w (n+m) old e-(n+m))) e)).ownsRow base e i.size
    (.slice (some ⟨w.heap.size,0,none⟩) (n+m) (grownCap w (n+m) old e)) (n+m) (xs++news) /\
   Grew w (w.drew.alloc (.cells ((xs++news).toArray++Acp z.cells (grownCap w (n+m) old e-(n+m))) e)) v (.slice (some ⟨w.heap.size,0,none⟩) (n+m) (grownCap w (n+m) old e)):=by
  intro old ho;have hge:=grownCap_ge w (n+m) old e;have hcm:grownCap w (n+m) old e<=maxLen:=grownCap_le_maxLen w (n+m) old e h63;refine⟨⟨hlen, .inr ⟨w.heap.size,_,_,rfl,hbase,heap_alloc_new w.drew _,hge,hcm,?_,?_⟩⟩,⟨⟨rfl,rfl,rfl,by simp,fun _ hk _=>heap_alloc_old w.drew _ hk⟩,?_⟩⟩
  ·simp only[Array.size_append,Ab5,size_zeroCells,hzs,hlen,<-AcN]
   congr 1
   omega
  ·simp only[Array.toList_append];rw[<-hlen];exact Ae1
  ·intro k hk;simp[Acb]at hk;exact .inr (by omega)
 rcases hown.2 with ⟨rfl,rfl⟩ | ⟨g,cap,cur,rfl,hbg,hg,hnc,hcm,hcs,htake⟩
 ·have hx:xs= []:=Acm (by simpa using hown.1);subst hx;by_cases hm:m=0
  ·subst hm;have hn:news= []:=Acm (by simpa using hl);subst hn;refine⟨.slice none 0 0,w,?_,Ac1 w base e i.size,Abq _ _⟩;have hc:=hs.cells;have hle:=hs.len;rcases hs.kind with ⟨e',hk⟩ | hk <;> simp[Ad5,run_underlying ht,run_underlying hk,sizeOf,typeInfo,hi,hle,hc]
  ·have hgr:=grown 0 (by omega);have hr:=run_append_grow_src (P:=P) w t tx ty e i z ht hi hz none 0 0 [] (run_firstCells_none w.drew i.size 0 0 0) x m news hs (by omega) (by omega)
    (growslice_fits (by omega) hbytes)
   exact⟨_,_,hr,hgr.1,hgr.2⟩
 ·by_cases hroom:n+m<=cap
  ·have hfit:n*i.size+news.length<=cur.size:=by rw[hl,hcs,<-AcN];exact AdQ _ hroom
   have hst:=run_storeCells_at P g (n*i.size) e news 0 cur w hg (by simpa using hfit) hs.one;simp only[AeR]at hst;have hr:(Ad5 #[t,tx] ty #[.slice (some ⟨g,0,none⟩) n cap,x]).run P w = .ok (.slice (some ⟨g,0,none⟩) (n+m) cap) (w.setRow g (cur.toList.take (n*i.size)++news++cur.toList.drop (n*i.size+news.length)).toArray):=by
    rcases hs.kind with ⟨e',hk⟩ | hk <;> simp[Ad5,run_underlying ht,run_underlying hk,sizeOf,typeInfo,hi,hs.len,hroom,hs.cells,AcT,hst]
   refine⟨_,_,hr,⟨hlen, .inr ⟨g,cap,_,rfl,hbg,setRow_heap w g cur _ e _ hg,hroom,hcm,?_,?_⟩⟩,⟨⟨rfl,rfl,rfl,by simp,fun k _ hk=>setRow_other w g k _ (fun e=>hk (by simp[Acb,e]))⟩,fun k hk=> .inl hk⟩⟩
   ·simp only[Ab5,Aby,AbR,AbS,AcZ];omega
   ·rw[htake,<-hlen];exact Ae1
  ·have holds:∀j u,xs[j]? =some u->w.cell? ((⟨g,0,none⟩:Addr).add j)=some u:=hown.cells (g:=g) rfl;have hgr:=grown cap (by omega);have hr:=run_append_grow_src (P:=P) w t tx ty e i z ht hi hz (some ⟨g,0,none⟩) n cap xs (run_firstCells_some w.drew i.size n ⟨g,0,none⟩ n cap xs hown.1 (by simpa using holds)) x m news hs (by omega) (by omega)
    (growslice_fits (by omega) hbytes)
   exact⟨_,_,hr,hgr.1,hgr.2⟩
theorem C6{ops:Array AbM}{rest:List AbM}{o:AbM}{a:Act}{Q:Aei->Act->Abt->Prop}(hgd:o.guard=none)(s xo:AbD)(t tx:Abz) 
  (ho:o.op = .call { callee:= .builtin .append,args:= #[s,xo],argTypes:= #[t,tx] })
  (base:Nat) (e:Abz) (i:TypeInfo) (z:Abs) (size bytes:Nat) (ht:P.underlying t=some (.slice e)) (hi:P.info? e=some i) (hz:i.zero=some z)
  (hsize:i.size=size) (hby:i.bytes=bytes) (hzs:z.cells.size=size)
  (v:Abs) (n:Nat) (xs:List Abs) (hs:a.eval s=v) (hown:w.ownsRow base e size v n xs)
  (x:Abs) (m:Nat) (news:List Abs) (hx:a.eval xo=x) (hsrc:Src P size tx x m news w)
  (h63:n+m<=maxLen) (hbytes:(n+m)*bytes<=140737488355328) (hbase:base<=w.heap.size)
  (h:∀v' w',w'.ownsRow base e size v' (n+m) (xs++news)->Grew w w' v v' ->wpList P ops Q rest (a.put o.dst v') w'):wpList P ops Q (o :: rest) a w:=
 wpList_plain hgd fun K hK=>by
  obtain⟨v',w',hr,h2,h3⟩:=EV (P:=P) w base t tx o.type e i z size bytes ht hi hz hsize hby hzs v n xs hown x m news hsrc h63 hbytes hbase;unfold AdJ execOp;simp only[ho,resolve,invoke,builtin,AbC,AbE,AbB,AbI,AbL,AbP,hs,hx,hr];exact hK _ _ (h v' w' h2 h3)
end
theorem AD{w:Abt}{b b' :Nat}{e:Abz}{size:Nat}{v:Abs}{n:Nat}{xs:List Abs}(h:w.ownsRow b e size v n xs)(hb:b' <=b):w.ownsRow b' e size v n xs:=
 ⟨h.1,h.2.imp (fun x=>x) (fun⟨g,cap,cur,a,c,r⟩=>⟨g,cap,cur,a,Abw hb c,r⟩)⟩
def Reads(w:Abt)(size:Nat)(v:Abs)(n:Nat)(xs:List Abs):Prop:=
 xs.length=n*size/\∃ao cap,v = .slice ao n cap/\n<=cap/\cap<=maxLen/\(ao=none->n=0/\cap=0)/\∀a,ao=some a->∀j u,xs[j]? =some u->w.cell? (a.add j)=some u
def RB(w:Abt)(v:Abs)(l:AgP):Prop:=Reads w 1 v l.length (Abv l)

theorem Aw(l:AgP):∀u∈Abv l,u.oneCell' =true:=by
 intro u hu;obtain⟨_,_,rfl⟩:=Acn.1 hu;rfl
theorem RB.src{P:AbN}{tx e' :Abz}(hk:P.underlying tx=some (.slice e')){w:Abt}{v:Abs}{l:AgP}(h:RB w v l):Src P 1 tx v l.length (Abv l) w:=by
 obtain⟨h1,ao,cap,rfl,h2,h3,h4,h5⟩:=h;cases ao with
 | none=>
  obtain⟨h6,rfl⟩:=h4 rfl;have:l= []:=Acm h6;subst this;exact Src.ofNil w hk 0
 | some a=>exact Src.ofSlice w hk a _ cap _ h1 (h5 a rfl) (Aw l)
theorem RB.below{B:Nat}{w w' :Abt}{v:Abs}{l:AgP}(h:RB w v l)(hb:Below B w w')(hB:B=w.heap.size):RB w' v l:=by
 obtain⟨h1,ao,cap,rfl,h2,h3,h4,h5⟩:=h;refine⟨h1,ao,cap,rfl,h2,h3,h4,fun a ha j u hu=> ?_⟩;have:=h5 a ha j u hu;exact(hb.cell (by have:=AcL w _ this;omega)).trans this
theorem S0(s:ByteArray):byteCells s=Abv s.data.toList:=rfl
theorem QA{P:AbN}{tx:Abz}(hk:P.underlying tx=some .string)(w:Abt)(s:ByteArray):Src P 1 tx (.string s) s.data.toList.length (Abv s.data.toList) w:=by
 have h:=Src.ofString (P:=P) w hk s;rw[S0]at h;exact h
theorem Yc{w:Abt}{base:Nat}{e:Abz}{v:Abs}{l:AgP}(h:w.ownsRow base e 1 v l.length (Abv l)):RB w v l:=by
 refine⟨h.1,?_⟩;have h' :=h;rcases h.2 with ⟨rfl,h0⟩ | ⟨g,cap,cur,rfl,hbg,hg,hnc,hcm,hcs,htake⟩
 ·exact⟨none,0,by rw[h0],by omega,by simp[maxLen],fun _=>⟨h0,rfl⟩,fun a ha=>by cases ha⟩
 ·exact⟨some ⟨g,0,none⟩,cap,rfl,hnc,hcm,(fun h=>by cases h),(fun a ha j u hu=>by cases ha;exact h'.cells rfl j u hu)⟩
theorem QB{P:AbN}{tx e' :Abz}(hk:P.underlying tx=some (.slice e'))(w:Abt)(c:Abs)(t:Abz)(hc:c.oneCell' =true):Src P 1 tx (.slice (some ⟨w.heap.size,0,none⟩) 1 1) 1 [c] (w.alloc (.cells #[c] t)):=
 Src.ofSlice _ hk ⟨w.heap.size,0,none⟩ 1 1 [c] rfl (fun j u hj=>by
  match j,hj with
  | 0,hj=>simp at hj;subst hj;simp[AdZ]) (fun u hu=>by simp at hu;subst hu;exact hc)
structure NewB (e : Abz) (w w' : Abt) (v : Abs) (l : AgP) : Prop where
 own:w'.ownsRow w.heap.size e 1 v l.length (Abv l)
 by_:w.grownBy w' none
theorem NewB.below{e:Abz}{w w' :Abt}{v:Abs}{l:AgP}(h:NewB e w w' v l):Below w.heap.size w w' :=
 (Aco _ _).grown h.by_ (Abx _) (fun k hk=>by cases hk)
theorem NewB.more{e:Abz}{w w1 w2:Abt}{v v' :Abs}{l l' :AgP}(h:NewB e w w1 v l)(g:Grew w1 w2 v v')(ho:w2.ownsRow w.heap.size e 1 v' (l.length+l'.length) (Abv l++Abv l')):NewB e w w2 v' (l++l'):=
 ⟨by rw[Af7,Aby];exact ho,Aa h.by_ g.by_ (fun b hb=> .inr (h.own.lt b hb).1)⟩
theorem RB.keep{w w' :Abt}{v:Abs}{l:AgP}(h:RB w v l)(hb:Below w.heap.size w w'):RB w' v l:=h.below hb rfl
theorem RB.len{w:Abt}{v:Abs}{l:AgP}(h:RB w v l):∃ao cap,v = .slice ao l.length cap/\l.length<=cap/\cap<=9223372036854775807:=by
 obtain⟨h1,ao,cap,rfl,h2,h3,h4,h5⟩:=h;unfold maxLen at h3;exact⟨ao,cap,rfl,h2,h3⟩
open Go.ChangeShapes Go.WideShapes Go.ChangeAt Go.RowKit
open Go.ChangeMaps (open_string shut_string)
section
variable {H : Type} {enc : Abz × Abs -> H} {P : AbN} {W : Abt}
theorem S1{t e:Abz}{n fuel:Nat}{cs:List Abs}{x:DataW H × List MemPlace}(ht:P.underlying t=some (.array n e))(he:P.underlying e=some (.int .u8))(hc:P.cellsOf e=1)(hn:P.cellsOf t=n) 
  (hf:DataW.trod enc P W 0 (fun _=>true) true fuel t cs=some x):∃l:AgP,l.length=n/\cs=Abv l:=by
 obtain⟨xs,m,rfl,rfl,hlen,hxs,hel⟩:=DataW.trod_array ht hf;rw[hc]at hel;have hcell:∀i,(hi:i<n)->∃b:UInt8,cs[i]? =some (.int .u8 (b.toNat:Int)):=fun i hi=>by
  have h1:=hel i hi;have hx:xs[i]? =some (xs[i]'(by omega)):=AbG (by omega);rw[hx]at h1;obtain⟨a,c,_,wa⟩:=DataW.trod_int he h1;have hb:0<=a/\a<=255:=by simpa [Lit.wf,IntKind.min,IntKind.max,AeC,Adv] using wa
  refine⟨UInt8.ofNat a.toNat,?_⟩;have h2:((cs.drop (i*1)).take 1)[0]? =some (.int .u8 a):=by rw[c];rfl
  simp at h2;rw[h2]
  congr 2
  simp;omega
 refine⟨(AdC n).map fun i=>if h:i<n then Classical.choose (hcell i h)else 0,by simp,?_⟩
 apply List.ext_getElem?
 intro i;by_cases hi:i<n
 ·have:=Classical.choose_spec (hcell i hi);rw[this];simp[Abv,hi]
 ·rw[Ac4 (by omega),Ac4 (by simp[Abv];omega)]
end
theorem own:ownKnob Tryz.prog.godebug=none:=by kernel_rfl
theorem Vi:laidOutB Tryz.prog=true:=by kernel_rfl
set_option maxRecDepth 100000
open Go.ChangeShapes Go.WideShapes Go.ChangeAt
noncomputable def HM(os:Os):Abt:=World.laidAll Tryz.prog os Rows.journalNilRow.laid
theorem S2(os:Os)(args:Array Abs):laidMet Tryz.prog Rows.journalNilRow.laid ((HM os).forCall (fun _ _=>0) ⟨#[],args,[]⟩).memory:=
 laidMet_laidAll _ (by kernel_rfl) (by kernel_rfl)
abbrev BJ:=Abs->Abt->Prop
def Is(v:Abs):BJ:=fun x _=>x=v
def Ab(ρ:Tmp->Abs):AbD->Abs
 | .tmp t=>ρ t
 | .const v=>v
 | .global g=> .pointer (some ⟨g,0,none⟩)
 | .func f=> .func (.func f) #[] #[]
theorem evalR_eq(a:Act):Ab (fun t=>a.tmps.getD t undef)=a.eval:=by
 funext x
 cases x <;> rfl
def Yk(P:AbN)(K:Abs->Abt->Prop):Af3 Next->Prop
 | .ok (.value v) w=>K v w
 | .ok .skip w=>K undef w
 | .ok (.enter f args) w=>Calls P f args w fun e w' =>∃v,e = .returned v/\K v w'
 | _=>False
def Dy(l:List AbM)(t:Tmp):Nat->Option Nat
 | 0=>none
 | n+1=>if(l[n]?.bind (·.dst))=some t then some n else Dy l t n
def FO(l:List AbM)(Φ:Nat->BJ)(T:Array Abs)(n:Nat)(t:Tmp)(x:Abs)(w:Abt):Prop:=
 match Dy l t n with
 | none=>x=T.getD t undef
 | some k=>Φ k x w
def AX(l:List AbM)(o:AbM)(ρ:Tmp->Abs):Bool:=
 match o.guard with
 | none=>true
 | some (g,want)=>match (l[g]?).bind (·.dst)with
  | some t=>(match ρ t with | .bool b=>b==want | _=>false)
  | none=>false
def JF(P:AbN)(l:List AbM)(C:Nat->Abt->Prop)(R:Nat->Abt->Abt->Prop)(Φ:Nat->BJ)(T:Array Abs)(n:Nat)(o:AbM):Prop:=
 ∀(ρ:Tmp->Abs) (w:Abt),C n w->(∀t∈o.looksAt l.toArray,FO l Φ T n t (ρ t) w) ->
  if AX l o ρ=true then Yk P (fun v w' =>R n w w' /\Φ n v w') ((execOp (Ab ρ) o).run P w)else Φ n undef w
def StepsOk(P:AbN)(l:List AbM)(C:Nat->Abt->Prop)(R:Nat->Abt->Abt->Prop)(Φ:Nat->BJ)(T:Array Abs):Nat->List AbM->Prop
 | _,[]=>True
 | n,o :: r=>JF P l C R Φ T n o/\StepsOk P l C R Φ T (n+1) r
theorem StepsOk.get{P:AbN}{l:List AbM}{C:Nat->Abt->Prop}{R:Nat->Abt->Abt->Prop}{Φ:Nat->BJ}{T:Array Abs}:
  ∀(r:List AbM) (n:Nat),StepsOk P l C R Φ T n r->∀k o,r[k]? =some o->JF P l C R Φ T (n+k) o
 | [],_,_,k,o,h=>by simp at h
 | x :: r,n,h,0,o,hk=>by simp at hk;subst hk;exact h.1
 | x :: r,n,h,k+1,o,hk=>by
  have:=StepsOk.get r (n+1) h.2 k o (by simpa using hk)
  rwa [show n+(k+1)=n+1+k by omega]
/-! ### The edges' closure, as bits -/
def GG(acc:List Nat)(o:AbM):Nat:=
 o.after.toList.foldl (fun s e=>if AcA .any e then s|||2^e.on|||acc.getD e.on 0 else s) 0
def AY:List AbM->List Nat->List Nat
 | [],acc=>acc
 | o :: r,acc=>AY r (acc++ [GG acc o])
theorem Mo(acc:List Nat)(k:Nat):∀(es:List Ack) (s:Nat),(es.foldl (fun s e=>if AcA .any e then s|||2^e.on|||acc.getD e.on 0 else s) s).testBit k=true ->
  s.testBit k=true\/∃e∈es,AcA .any e=true/\(e.on=k\/(acc.getD e.on 0).testBit k=true)
 | [],s,h=> .inl h
 | e :: es,s,h=>by
  rw[Aev]at h;rcases Mo acc k es _ h with h1 | ⟨e',he',hb,hx⟩
  ·by_cases hb:AcA .any e=true
   ·rw[if_pos hb]at h1;simp only[Nat.testBit_or,Ac6]at h1;rcases h1 with (h1 | h1) | h1
    ·exact .inl h1
    ·rw[Nat.testBit_two_pow]at h1;exact .inr ⟨e,by simp,hb, .inl (by simpa using h1)⟩
    ·exact .inr ⟨e,by simp,hb, .inr h1⟩
   ·rw[if_neg hb]at h1;exact .inl h1
  ·exact .inr ⟨e',by simp[he'],hb,hx⟩
theorem NQ{acc:List Nat}{o:AbM}{k:Nat}(h:(GG acc o).testBit k=true):
  ∃e∈o.after,AcA .any e=true/\(e.on=k\/(acc.getD e.on 0).testBit k=true):=by
 rcases Mo acc k _ _ h with h1 | ⟨e,he,hb,hx⟩
 ·simp at h1
 ·exact⟨e,by simpa using he,hb,hx⟩
theorem Jh(l:List AbM):∀(r:List AbM) (acc:List Nat),acc.length+r.length=l.length->(∀j,r[j]? =l[acc.length+j]?) ->
  (∀i o k,i<acc.length->l[i]? =some o->(acc.getD i 0).testBit k=true->∃e∈o.after,AcA .any e=true/\(e.on=k\/(e.on<i/\(acc.getD e.on 0).testBit k=true))) ->
  ∀i o k,l[i]? =some o->((AY r acc).getD i 0).testBit k=true->∃e∈o.after,AcA .any e=true/\(e.on=k\/(e.on<i/\((AY r acc).getD e.on 0).testBit k=true))
 | [],acc,hl,_,hacc,i,o,k,hi,h=>by
  have:i<l.length:=(AbW.1 hi).1;exact hacc i o k (by simp at hl;omega) hi h
 | x :: r,acc,hl,hr,hacc,i,o,k,hi,h=>by
  rw[AY]at h ⊢;refine Jh l r (acc++ [GG acc x]) (by simp at hl ⊢;omega) (fun j=>by have:=hr (j+1);simp at this ⊢;rw[this];congr 1;omega) ?_ i o k hi h;intro i o k hlt ho ht;have keep:∀j,j<acc.length->(acc++ [GG acc x]).getD j 0=acc.getD j 0:=fun j hj=>by
   simp[Agt,AcM hj]
  simp at hlt;by_cases hia:i<acc.length
  ·rw[keep i hia]at ht;obtain⟨e,he,hb,hx⟩:=hacc i o k hia ho ht;exact⟨e,he,hb,hx.imp id (fun h2=>⟨h2.1,by rw[keep _ (by omega)];exact h2.2⟩)⟩
  ·have hie:i=acc.length:=by omega
   subst hie;have a:x=o:=by
    have:=hr 0;simp[ho]at this;exact this
   subst a;have b:(acc++ [GG acc x]).getD acc.length 0=GG acc x:=by simp[Agt]
   rw[b]at ht;obtain⟨e,he,hb,hx⟩:=NQ ht;refine⟨e,he,hb,hx.imp id (fun h2=> ?_)⟩;by_cases hl:e.on<acc.length
   ·exact⟨hl,by rw[keep _ hl];exact h2⟩
   ·simp[Agt,Ac4 (show acc.length<=e.on by omega)]at h2
def IE(l:List AbM)(o:AbM):List Tmp:=o.dst.toList++o.looksAt l.toArray
def DJ(l:List AbM)(size:Nat):Bool:=
 let m:=AY l []
 l.zipIdx.all fun(o,j)=>
  (o.after.all fun e=> !AcA .any e||e.on<j) &&
  (match o.dst with | some d=>decide (d<size) | none=>true) &&
  l.zipIdx.all fun(p,i)=>decide (j<=i)||((match p.dst with | some d=> !(IE l o).contains d | none=>true)&&(match o.dst with | some d=> !(IE l p).contains d | none=>true))||(m.getD j 0).testBit i
structure Mp (l : List AbM) (size : Nat) : Prop where
 back:∀(j:Nat) (o:AbM),l[j]? =some o->∀e∈o.after,AcA .any e=true->e.on<j
 room:∀(j:Nat) (o:AbM) (d:Tmp),l[j]? =some o->o.dst=some d->d<size
 tied:∀(j:Nat) (o:AbM) (i:Nat) (p:AbM) (d:Tmp),l[j]? =some o->l[i]? =some p->i<j->(p.dst=some d/\d∈IE l o\/o.dst=some d/\d∈IE l p)->((AY l []).getD j 0).testBit i=true
theorem IF{l:List AbM}{size:Nat}(h:DJ l size=true):Mp l size:=by
 unfold DJ at h;simp only[Acr]at h;have hz:∀j o,l[j]? =some o->(o,j)∈l.zipIdx:=fun j o ho=>by
  rw[Ae2];exact ho
 refine⟨fun j o ho e he hb=> ?_,fun j o d ho hd=> ?_,fun j o i p d ho hp hij hx=> ?_⟩
 ·have:=h _ (hz j o ho);simp only[AbY]at this;have h2:=Array.all_eq_true_iff_forall_mem.1 this.1.1 e he
  simpa [hb] using h2
 ·have:=h _ (hz j o ho);simp only[AbY,hd]at this
  simpa using this.1.2
 ·have:=h _ (hz j o ho);simp only[AbY,Acr]at this;have h2:=this.2 _ (hz i p hp);simp only[Ac6,decide_eq_true_eq,AbY]at h2;rcases h2 with (h2 | h2) | h2
  ·omega
  ·exfalso;rcases hx with ⟨h3,h4⟩ | ⟨h3,h4⟩
   ·have h5:=h2.1;rw[h3]at h5;simp at h5;exact h5 h4
   ·have h5:=h2.2;rw[h3]at h5;simp at h5;exact h5 h4
  ·exact h2
def FC(l:List AbM)(kill:Nat->List Nat):Bool:=
 let m:=AY l []
 l.zipIdx.all fun(o,j)=>(AdC l.length).all fun n=>decide (n=j)||(kill n).all fun k=>(m.getD n 0).testBit j||(o.looksAt l.toArray).all fun t=>Dy l t j != some k
theorem Vj{l:List AbM}{kill:Nat->List Nat}(h:FC l kill=true)(j n k:Nat)(o:AbM)(t:Tmp)(ho:l[j]? =some o)(hn:n<l.length)(hne:n≠j)(hk:k∈kill n)(ht:t∈o.looksAt l.toArray)(hw:Dy l t j=some k):((AY l []).getD n 0).testBit j=true:=by
 unfold FC at h;simp only[Acr]at h;have h1:=h (o,j) (by rw[Ae2];exact ho) n (by simpa using hn);simp only[Ac6,decide_eq_true_eq,hne,false_or,Acr]at h1;rcases h1 k hk with h2 | h2
 ·exact h2
 ·have:=h2 t ht;simp[hw]at this
section
variable {P : AbN} {l : List AbM} {kill : Nat -> List Nat} {C : Nat -> Abt -> Prop} {E : Array Bool -> Abt -> Prop} {R : Nat -> Abt -> Abt -> Prop} {Φ : Nat -> BJ} {a0 : Act}
def On(listed:Array Bool)(i:Nat):Prop:=listed.getD i false=true
theorem On.lt{listed:Array Bool}{i:Nat}(h:On listed i):i<listed.size:=by
 unfold On at h;rcases Nat.lt_or_ge i listed.size with h' | h'
 ·exact h'
 ·simp[Ad7 h']at h
theorem AQ{listed:Array Bool}{i j:Nat}(hi:i<listed.size):On (listed.setIfInBounds i true) j↔j=i\/On listed j:=by
 unfold On;by_cases h:i=j
 ·subst h;simp[hi]
 ·simp[Adu h,Ne.symm h]
structure Inv (l : List AbM) (kill : Nat -> List Nat) (C : Nat -> Abt -> Prop) (E : Array Bool -> Abt -> Prop) (Φ : Nat -> BJ) (a0 : Act) (listed : Array Bool) (a : Act) (w : Abt) : Prop where
 size:listed.size=l.length
 closed:∀i o,l[i]? =some o->On listed i->∀e∈o.after,AcA .any e=true->On listed e.on
 defers:a.defers=a0.defers
 tmps:a.tmps.size=a0.tmps.size
 cls:∀n,n<l.length->¬On listed n->C n w
 ecl:E listed w
 old:∀t,(∀k o,l[k]? =some o->o.dst=some t->¬On listed k)->a.tmps.getD t undef=a0.tmps.getD t undef
 new:∀t k o,l[k]? =some o->o.dst=some t->On listed k->(∀k' o',k<k' ->l[k']? =some o' ->o'.dst=some t->¬On listed k')->(∀n,On listed n->k∉kill n)->Φ k (a.tmps.getD t undef) w
theorem Inv.mask{listed:Array Bool}{a:Act}{w:Abt}(h:Inv l kill C E Φ a0 listed a w):
  ∀(i k:Nat),On listed i->((AY l []).getD i 0).testBit k=true->On listed k:=by
 intro i
 induction i using AeS with
 | _ i ih=>
  intro k hi hk;have hlt:i<l.length:=by have:=hi.lt;rw[h.size]at this;exact this
  have ho:l[i]? =some l[i]:=AbG hlt;obtain⟨e,he,hb,hx⟩:=Jh l l [] (by simp) (by simp) (fun i o k hi=>by simp at hi) i l[i] k ho hk;have hon:=h.closed i _ ho hi e he hb;rcases hx with rfl | ⟨b,ht⟩
  ·exact hon
  ·exact ih e.on b k hon ht
theorem Inv.maskReady{listed:Array Bool}{a:Act}{w:Abt}(h:Inv l kill C E Φ a0 listed a w){i:Nat}{o:AbM}(ho:l[i]? =some o) 
  (hall:∀e∈o.after,AcA .any e=true->On listed e.on) {k:Nat} (hk:((AY l []).getD i 0).testBit k=true):On listed k:=by
 obtain⟨e,he,hb,hx⟩:=Jh l l [] (by simp) (by simp) (fun i o k hi=>by simp at hi) i o k ho hk;have hon:=hall e he hb;rcases hx with rfl | ⟨_,ht⟩
 ·exact hon
 ·exact h.mask _ _ hon ht
theorem IQ{t:Tmp}:∀(n:Nat),Dy l t n=none->∀(k:Nat) (o:AbM),k<n->l[k]? =some o->o.dst≠some t
 | 0,_,k,o,hk,_=>by omega
 | n+1,h,k,o,hk,ho=>by
  unfold Dy at h;split at h
  ·cases h
  ·rename_i hne
   by_cases hkn:k=n
   ·subst hkn;intro hd;simp[ho,hd]at hne
   ·exact IQ n h k o (by omega) ho
theorem Gu{t:Tmp}{k:Nat}:∀(n:Nat),Dy l t n=some k->k<n/\(∃o,l[k]? =some o/\o.dst=some t)/\∀(k' :Nat) (o' :AbM),k<k' ->k' <n->l[k']? =some o' ->o'.dst≠some t
 | 0,h=>by cases h
 | n+1,h=>by
  unfold Dy at h;split at h
  ·rename_i he
   have hkn:n=k:=AbX h;subst hkn;refine⟨by omega,?_,fun k' o' h1 h2=>by omega⟩;cases ho:l[n]? with
   | none=>simp[ho]at he
   | some o=>exact⟨o,rfl,by simpa [ho] using he⟩
  ·rename_i hne
   obtain⟨h1,h2,h3⟩:=Gu n h;refine⟨by omega,h2,fun k' o' hk hk' ho' hd=> ?_⟩;by_cases he:k' =n
   ·subst he;simp[ho',hd]at hne
   ·exact h3 k' o' hk (by omega) ho' hd
theorem Inv.look(g:Mp l a0.tmps.size)(hkl:FC l kill=true){listed:Array Bool}{a:Act}{w:Abt}(h:Inv l kill C E Φ a0 listed a w){i:Nat}{o:AbM}(ho:l[i]? =some o)(hi:¬On listed i) 
  (hall:∀e∈o.after,AcA .any e=true->On listed e.on) (t:Tmp) (ht:t∈o.looksAt l.toArray):FO l Φ a0.tmps i t (a.tmps.getD t undef) w:=by
 have hlate:∀k o',i<=k->l[k]? =some o' ->o'.dst=some t->¬On listed k:=fun k o' hk ho' hd hon=>by
  by_cases he:k=i
  ·subst he;exact hi hon
  ·exact hi (h.mask k i hon (g.tied k o' i o t ho' ho (by omega) (.inr ⟨hd,AcR _ ht⟩)))
 unfold FO;split
 ·rename_i hw
  refine h.old t fun k o' ho' hd hon=> ?_;by_cases hk:k<i
  ·exact IQ _ hw k o' hk ho' hd
  ·exact hlate k o' (by omega) ho' hd hon
 ·rename_i k hw
  obtain⟨hk,⟨ok,hok,hdk⟩,hno⟩:=Gu _ hw;refine h.new t k ok hok hdk (h.maskReady ho hall (g.tied i o k ok t ho hok hk (.inl ⟨hdk,AcR _ ht⟩))) (fun k' o' hkk ho' hd=> ?_) (fun n hon hkn=> ?_)
  ·by_cases hki:k' <i
   ·exact absurd hd (hno k' o' hkk hki ho')
   ·exact hlate k' o' (by omega) ho' hd
  ·have hne:n≠i:=fun e=>hi (e▸hon);exact hi (h.mask n i hon (Vj hkl i n k o t ho (by have:=hon.lt;rw[h.size]at this;exact this) hne hkn ht hw))
theorem Inv.put(g:Mp l a0.tmps.size)(hC:∀n m,n<l.length->m<l.length->n≠m->((AY l []).getD n 0).testBit m=false->∀w w',C m w->R n w w' ->C m w')(hE:∀n listed w w',n<l.length->listed.size=l.length->¬On listed n->(∀i k,On listed i\/i=n->((AY l []).getD i 0).testBit k=true->On listed k)->E listed w->R n w w' ->E (listed.setIfInBounds n true) w')(hΦ:∀n i,n<l.length->i<l.length->i∉kill n->i≠n->((AY l []).getD i 0).testBit n=false->∀v w w',Φ i v w->R n w w' ->Φ i v w'){listed:Array Bool}{a:Act}{w:Abt}(h:Inv l kill C E Φ a0 listed a w){i:Nat}{o:AbM}(ho:l[i]? =some o)(hi:¬On listed i) 
  (hall:∀e∈o.after,AcA .any e=true->On listed e.on) {v:Abs} {w' :Abt} (hR:R i w w') (hv:Φ i v w'):Inv l kill C E Φ a0 (listed.setIfInBounds i true) (a.put o.dst v) w' :=by
 have hil:i<listed.size:=by rw[h.size];exact(AbW.1 ho).1
 have hget:∀t,o.dst≠some t->(a.put o.dst v).tmps.getD t undef=a.tmps.getD t undef:=fun t ht=>by
  cases hd:o.dst with
  | none=>rfl
  | some d=>
   have hne:d≠t:=fun e=>ht (by rw[hd,e]);simp[Act.put,Adu hne]
 have hilen:i<l.length:=(AbW.1 ho).1;refine⟨by simpa using h.size,fun j oj hj hon e he hb=> ?_,?_,?_,fun m hm hno=> ?_,hE i listed w w' hilen h.size hi (fun j k hj hk=>hj.elim (fun hj=>h.mask j k hj hk) (fun hj=>by subst hj;exact h.maskReady ho hall hk)) h.ecl hR,fun t ht=> ?_,fun t k ok hk hd hon hlast hkl=> ?_⟩
 ·rcases(AQ hil).1 hon with rfl | hon
  ·obtain rfl:o=oj:=by rw[ho]at hj;exact AbX hj
   exact(AQ hil).2 (.inr (hall e he hb))
  ·exact(AQ hil).2 (.inr (h.closed j oj hj hon e he hb))
 ·cases hd:o.dst <;> exact h.defers
 ·cases hd:o.dst with
  | none=>exact h.tmps
  | some d=>simpa [Act.put] using h.tmps
 ·have hnm:i≠m:=fun e=>hno ((AQ hil).2 (.inl e.symm));have hoff:¬On listed m:=fun h' =>hno ((AQ hil).2 (.inr h'));refine hC i m hilen hm hnm ?_ _ _ (h.cls m hm hoff) hR;cases hb:((AY l []).getD i 0).testBit m with
  | false=>rfl
  | true=>exact absurd (h.maskReady ho hall hb) hoff
 ·have hne:o.dst≠some t:=fun hd=>ht i o ho hd ((AQ hil).2 (.inl rfl));rw[hget t hne];exact h.old t fun k ok hk hd hon=>ht k ok hk hd ((AQ hil).2 (.inr hon))
 ·by_cases hdt:o.dst=some t
  ·by_cases hki:k=i
   ·subst hki;have hroom:=g.room k o t ho hdt;have:(a.put o.dst v).tmps.getD t undef=v:=by
     rw[hdt];simp[Act.put,h.tmps,hroom]
    rw[this];exact hv
   ·exfalso;rcases(AQ hil).1 hon with he | hon
    ·exact hki he
    ·rcases Nat.lt_or_gt_of_ne hki with hlt | hgt
     ·exact hlast i o hlt ho hdt ((AQ hil).2 (.inl rfl))
     ·exact hi (h.mask k i hon (g.tied k ok i o t hk ho hgt (.inl ⟨hdt,Aej _ (by simp[hd])⟩)))
  ·have hki:k≠i:=fun e=>by subst e;rw[ho]at hk;cases hk;exact hdt hd
   rw[hget t hdt];have hkon:On listed k:=((AQ hil).1 hon).resolve_left hki;have hmf:((AY l []).getD k 0).testBit i=false:=by
    cases hb:((AY l []).getD k 0).testBit i with
    | false=>rfl
    | true=>exact absurd (h.mask k i hkon hb) hi
   refine hΦ i k (AbW.1 ho).1 (AbW.1 hk).1 (hkl i ((AQ hil).2 (.inl rfl))) hki hmf _ _ _ (h.new t k ok hk hd (((AQ hil).1 hon).resolve_left hki) (fun k' o' hkk ho' hd' hon' => ?_) (fun n hn=>hkl n ((AQ hil).2 (.inr hn)))) hR;exact hlast k' o' hkk ho' hd' ((AQ hil).2 (.inr hon'))
theorem K5(a:Act)(o:AbM):AX l o (fun t=>a.tmps.getD t undef)=AcB o (yielded l.toArray a.tmps):=by
 unfold AX AcB yielded;cases hg:o.guard with
 | none=>rfl
 | some gw=>
  obtain⟨g,want⟩:=gw;simp only[Acw];cases hd:(l[g]?).bind (·.dst)with
  | none=>simp
  | some t=>
   simp only[Option.bind_some];cases hx:a.tmps[t]? with
   | none=>simp[Aci,hx,undef]
   | some x=>cases x <;> simp[Aci,hx]
theorem Inv.step(g:Mp l a0.tmps.size)(hkl:FC l kill=true)(hC:∀n m,n<l.length->m<l.length->n≠m->((AY l []).getD n 0).testBit m=false->∀w w',C m w->R n w w' ->C m w')(hE:∀n listed w w',n<l.length->listed.size=l.length->¬On listed n->(∀i k,On listed i\/i=n->((AY l []).getD i 0).testBit k=true->On listed k)->E listed w->R n w w' ->E (listed.setIfInBounds n true) w')(hΦ:∀n i,n<l.length->i<l.length->i∉kill n->i≠n->((AY l []).getD i 0).testBit n=false->∀v w w',Φ i v w->R n w w' ->Φ i v w')(hRr:∀n o w,l[n]? =some o->o.guard.isSome=true->R n w w){listed:Array Bool}{a:Act}{w:Abt}(h:Inv l kill C E Φ a0 listed a w){i:Nat}{o:AbM}(ho:l[i]? =some o)(hi:¬On listed i) 
  (hall:∀e∈o.after,AcA .any e=true->On listed e.on) (hs:JF P l C R Φ a0.tmps i o) {K:Act->Abt->Prop} {Q:Aei->Act->Abt->Prop}
  (hK:∀a' w',Inv l kill C E Φ a0 (listed.setIfInBounds i true) a' w' ->K a' w'):wpOp P l.toArray Q i K a w:=by
 have hst:=hs (fun t=>a.tmps.getD t undef) w (h.cls i (AbW.1 ho).1 hi) (fun t ht=>h.look g hkl ho hi hall t ht);rw[K5,evalR_eq]at hst;unfold wpOp;simp only[Acw,ho];by_cases hw:AcB o (yielded l.toArray a.tmps)=true
 ·rw[if_pos hw]at hst ⊢;refine .inl ?_;unfold AdJ
  generalize (execOp a.eval o).run P w=r at hst ⊢
  cases r with
  | halt x w' =>exact hst.elim
  | ok n w' =>
   cases n <;> simp only[Yk]at hst <;> simp only[AdV]
   case value v=>exact hK _ _ (h.put g hC hE hΦ ho hi hall hst.1 hst.2)
   case skip=>exact hK _ _ (h.put g hC hE hΦ ho hi hall hst.1 hst.2)
   case enter f args=>
    refine hst.mono fun e w'' hx=> ?_;obtain⟨v,rfl,h1,h2⟩:=hx;exact hK _ _ (h.put g hC hE hΦ ho hi hall h1 h2)
 ·rw[if_neg hw]at hst ⊢;have hgs:o.guard.isSome=true:=by
   cases hgo:o.guard with
   | none=>exact absurd (by unfold AcB;rw[hgo]) hw
   | some x=>rfl
  exact hK _ _ (h.put g hC hE hΦ ho hi hall (hRr i o w ho hgs) hst)
theorem Gg:∀(L:List Bool) (i:Nat),L[i]? =some false->((L.set i true).filter (!·)).length+1=(L.filter (!·)).length
 | [],i,h=>by simp at h
 | x :: L,0,h=>by simp at h;subst h;simp
 | x :: L,i+1,h=>by
  have ih:=Gg L i (by simpa using h);cases x <;> simp <;> omega
theorem FD:∀(L:List Bool),(L.filter (!·)).length=0->∀i:Nat,i<L.length->L[i]? =some true
 | [],_,i,h=>by simp at h
 | x :: L,h0,i,h=>by
  cases x
  ·simp at h0
  ·cases i with
   | zero=>rfl
   | succ i=>
    rw[List.getElem?_cons_succ];exact FD L (by simpa using h0) i (by simpa using h)
theorem Wl(g:Mp l a0.tmps.size)(hkl:FC l kill=true)(hC:∀n m,n<l.length->m<l.length->n≠m->((AY l []).getD n 0).testBit m=false->∀w w',C m w->R n w w' ->C m w')(hE:∀n listed w w',n<l.length->listed.size=l.length->¬On listed n->(∀i k,On listed i\/i=n->((AY l []).getD i 0).testBit k=true->On listed k)->E listed w->R n w w' ->E (listed.setIfInBounds n true) w')(hΦ:∀n i,n<l.length->i<l.length->i∉kill n->i≠n->((AY l []).getD i 0).testBit n=false->∀v w w',Φ i v w->R n w w' ->Φ i v w')(hRr:∀n o w,l[n]? =some o->o.guard.isSome=true->R n w w)(hs:StepsOk P l C R Φ a0.tmps 0 l){Q:Aei->Act->Abt->Prop} 
  (hQ:∀listed a' w',(∀i,i<l.length->On listed i)->Inv l kill C E Φ a0 listed a' w' ->Q .normal a' w'):
  ∀(fuel:Nat) (listed:Array Bool) (a:Act) (w:Abt),(listed.toList.filter (!·)).length=fuel->Inv l kill C E Φ a0 listed a w->wpAny P .any l.toArray Q fuel listed a w:=by
 have full:∀(listed:Array Bool) (a:Act) (w:Abt),Inv l kill C E Φ a0 listed a w->AdE .any l.toArray listed= []->∀i,i<l.length->On listed i:=by
  intro listed a w h hr i
  induction i using AeS with
  | _ i ih=>
   intro hi;refine Classical.byContradiction fun hno=> ?_;have ho:l[i]? =some l[i]:=AbG hi;have:i∈AdE .any l.toArray listed:=by
    refine mem_ready.2 ⟨?_,l[i],by rw[Acw];exact ho,fun e he hb=> ?_⟩
    ·have hi' :i<listed.size:=by rw[h.size];exact hi
     unfold On at hno;simp[hi']at hno ⊢;exact hno
    ·have hlt:=g.back i _ ho e he hb;exact ih e.on hlt (by omega)
   rw[hr]at this;cases this
 intro fuel
 induction fuel with
 | zero=>
  intro listed a w hf h;have hon:∀i,i<l.length->On listed i:=fun i hi=>by
   have:=FD _ hf i (by rw[AcZ,h.size];exact hi);unfold On;simp at this;simp[this]
  have hr:AdE .any l.toArray listed= []:=by
   cases hr:AdE .any l.toArray listed with
   | nil=>rfl
   | cons x xs=>
    exfalso;have hm:x∈AdE .any l.toArray listed:=by rw[hr];simp
    obtain⟨h1,o,ho,_⟩:=mem_ready.1 hm;have hx:x<l.length:=by simpa using (Acg.1 ho).1
    have h2:=hon x hx;have hx' :x<listed.size:=h2.lt;unfold On at h2;simp[hx']at h1 h2;rw[h1]at h2;cases h2
  exact⟨hr,hQ _ _ _ hon h⟩
 | succ fuel ih=>
  intro listed a w hf h;refine⟨fun hr=>hQ _ _ _ (full listed a w h hr) h,fun i hi=> ?_⟩;obtain⟨h1,o,ho,hall⟩:=mem_ready.1 hi;have ho' :l[i]? =some o:=by simpa using ho
  have hil:i<listed.size:=by rw[h.size];exact(AbW.1 ho').1
  have hno:¬On listed i:=by
   unfold On;simp[hil]at h1 ⊢;exact h1
  have hst:=hs.get l 0 i o ho';rw[Adc]at hst;refine h.step g hkl hC hE hΦ hRr ho' hno (fun e he hb=>hall e he hb) hst fun a' w' h' =>ih _ _ _ ?_ h';rw[Aeq];have:=Gg listed.toList i (by
   simp[hil]at h1;simp[hil,h1])
  omega
def slotsW(l:List AbM):List Tmp:=(l.filterMap (·.dst)).eraseDups
def Dn(T:Array Abs)(ds:List Tmp)(u:Tmp->Abs):Array Abs:=ds.foldl (fun T d=>T.setIfInBounds d (u d)) T
theorem EE(u:Tmp->Abs):∀(ds:List Tmp) (T:Array Abs),(Dn T ds u).size=T.size
 | [],T=>rfl
 | d :: ds,T=>by unfold Dn;rw[Aev];exact(EE u ds _).trans (by simp)
theorem HN(u:Tmp->Abs)(t:Tmp):∀(ds:List Tmp) (T:Array Abs),t<T.size->(Dn T ds u).getD t undef=if t∈ds then u t else T.getD t undef
 | [],T,_=>by simp[Dn]
 | d :: ds,T,ht=>by
  have ih:=HN u t ds (T.setIfInBounds d (u d)) (by simpa using ht);unfold Dn at ih ⊢;rw[Aev,ih];by_cases h1:t∈ds
  ·simp[h1]
  ·by_cases h2:t=d
   ·subst h2;simp[h1,ht]
   ·simp[h1,h2,Adu (Ne.symm h2)]
def C4(l:List AbM)(kill:Nat->List Nat)(Φ:Nat->BJ)(u:Tmp->Abs)(w:Abt):List Tmp->Prop
 | []=>True
 | d :: ds=>(match Dy l d l.length with | some k=>if(AdC l.length).all (fun n=> !(kill n).contains k)=true then Φ k (u d) w else True | none=>True)/\C4 l kill Φ u w ds
theorem IR{u:Tmp->Abs}{w:Abt}(h:∀d k,Dy l d l.length=some k->(AdC l.length).all (fun n=> !(kill n).contains k)=true->Φ k (u d) w):∀ds,C4 l kill Φ u w ds
 | []=>trivial
 | d :: ds=>⟨by split;(split;(exact h d _ ‹_› ‹_›);trivial);trivial,IR h ds⟩
theorem Wm(T:Array Abs)(df:List Deferred){Q:Aei->Act->Abt->Prop}(ds:List Tmp)(hds:slotsW l=ds) 
  (hQ:∀(u:Tmp->Abs) listed w',(∀i,i<l.length->On listed i)->E listed w' ->C4 l kill Φ u w' ds->Q .normal { tmps:=Dn T ds u,defers:=df } w'):
  ∀listed a' w',(∀i,i<l.length->On listed i)->Inv l kill C E Φ { tmps:=T,defers:=df } listed a' w' ->Q .normal a' w' :=by
 intro listed a' w' hon h;have hw:∀d k,Dy l d l.length=some k->(AdC l.length).all (fun n=> !(kill n).contains k)=true->Φ k (a'.tmps.getD d undef) w' :=fun d k hk hall=>by
  obtain⟨h1,⟨o,ho,hd⟩,h3⟩:=Gu _ hk;refine h.new d k o ho hd (hon k h1) (fun k' o' hkk ho' hd' _=>h3 k' o' hkk (AbW.1 ho').1 ho' hd') (fun n hn hkn=> ?_);have hnl:n<l.length:=by have:=hn.lt;rw[h.size]at this;exact this
  have:=Acr.1 hall n (by simpa using hnl);simp at this;exact this hkn
 have hq:=hQ (fun t=>a'.tmps.getD t undef) listed w' hon h.ecl (IR hw ds);have he:a' = { tmps:=Dn T ds (fun t=>a'.tmps.getD t undef),defers:=df } :=by
  have h1:a'.tmps=Dn T ds (fun t=>a'.tmps.getD t undef):=by
   apply Array.ext (by rw[EE];exact h.tmps)
   intro t ht1 ht2;have ht3:t<T.size:=by rw[EE]at ht2;exact ht2
   have hx:=HN (fun t=>a'.tmps.getD t undef) t ds T ht3;have a:∀(A:Array Abs) (ht:t<A.size),A.getD t undef=A[t]:=fun A ht=>by
    rw[Aci,Array.getElem?_eq_getElem ht,Option.getD_some]
   rw[a _ ht2]at hx;by_cases hn:t∈ds
   ·rw[if_pos hn,a _ ht1]at hx;exact hx.symm
   ·rw[if_neg hn,a _ ht3]at hx;have ho:a'.tmps.getD t undef=T.getD t undef:=h.old t fun k o ho hd _=>hn (by
     rw[<-hds];unfold slotsW;rw[List.mem_eraseDups,Afa];exact⟨o,List.mem_of_getElem? ho,hd⟩)
    rw[a _ ht1,a _ ht3]at ho;exact ho.trans hx.symm
  have h2:=h.defers;cases a';simp only at h1 h2;subst h2;rw[<-h1]
 rw[he];exact hq
theorem KF(kill:Nat->List Nat)(C:Nat->Abt->Prop)(E:Array Bool->Abt->Prop)(R:Nat->Abt->Abt->Prop)(Φ:Nat->BJ){id:Nat}{Q:Aei->Act->Abt->Prop}{w:Abt}(hm:P.follows .mixedOrders=true)(T:Array Abs)(df:List Deferred) 
  (hg:DJ l T.size=true) (hkl:FC l kill=true) (ds:List Tmp) (hds:slotsW l=ds) (hC:∀n m,n<l.length->m<l.length->n≠m->((AY l []).getD n 0).testBit m=false->∀w w',C m w->R n w w' ->C m w') (hE:∀n listed w w',n<l.length->listed.size=l.length->¬On listed n->(∀i k,On listed i\/i=n->((AY l []).getD i 0).testBit k=true->On listed k)->E listed w->R n w w' ->E (listed.setIfInBounds n true) w') (hΦ:∀n i,n<l.length->i<l.length->i∉kill n->i≠n->((AY l []).getD i 0).testBit n=false->∀v w w',Φ i v w->R n w w' ->Φ i v w') (hRr:∀n o w,l[n]? =some o->o.guard.isSome=true->R n w w)
  (h0:∀n,n<l.length->C n { w with drawn:=w.drawn+1 }) (h1:E (Adg l.toArray.size false) { w with drawn:=w.drawn+1 })
  (hs:StepsOk P l C R Φ T 0 l)
  (hQ:∀(u:Tmp->Abs) listed w',(∀i,i<l.length->On listed i)->E listed w' ->C4 l kill Φ u w' ds->Q .normal { tmps:=Dn T ds u,defers:=df } w'):(Code.region id l.toArray true).wp P Q { tmps:=T,defers:=df } w:=by
 have g:=IF hg;refine wp_region_any hm (Wl (a0:= { tmps:=T,defers:=df }) g hkl hC hE hΦ hRr hs (fun listed a' w' hon h=> ?_) _ _ _ _ (by simp) ?_)
 ·exact Wm T df ds hds hQ listed a' w' hon h
 ·have hno:∀i,¬On (Adg l.toArray.size false) i:=fun i h=>by
   unfold On at h;rw[Aci,Adw]at h;split at h <;> simp at h
  exact⟨Array.size_replicate,fun i o _ h=>absurd h (hno i),rfl,rfl,fun n hn _=>h0 n hn,h1,fun t _=>rfl,fun t k o _ _ h=>absurd h (hno k)⟩
theorem Gh(kill:Nat->List Nat)(C:Abt->Prop)(R:Nat->Abt->Abt->Prop)(Φ:Nat->BJ){id:Nat}{Q:Aei->Act->Abt->Prop}{w:Abt}(hm:P.follows .mixedOrders=true)(T:Array Abs)(df:List Deferred) 
  (hg:DJ l T.size=true) (hkl:FC l kill=true) (ds:List Tmp) (hds:slotsW l=ds) (hC:∀n w w',C w->R n w w' ->C w') (hΦ:∀n i,n<l.length->i<l.length->i∉kill n->i≠n->((AY l []).getD i 0).testBit n=false->∀v w w',Φ i v w->R n w w' ->Φ i v w') (hRr:∀n o w,l[n]? =some o->o.guard.isSome=true->R n w w) (h0:C { w with drawn:=w.drawn+1 })
  (hs:StepsOk P l (fun _=>C) R Φ T 0 l)
  (hQ:∀(u:Tmp->Abs) w',C w' ->C4 l kill Φ u w' ds->Q .normal { tmps:=Dn T ds u,defers:=df } w'):(Code.region id l.toArray true).wp P Q { tmps:=T,defers:=df } w:=
 KF kill (fun _=>C) (fun _=>C) R Φ hm T df hg hkl ds hds (fun n _ _ _ _ _=>hC n) (fun n _ w w' _ _ _ _=>hC n w w') hΦ hRr (fun _ _=>h0) h0 hs (fun u _ w' _=>hQ u w')
theorem FP{C:Nat->Abt->Prop}{R:Nat->Abt->Abt->Prop}{T:Array Abs}{n:Nat}{o:AbM}(hg:o.guard=none) 
  (h:∀ρ w,C n w->(∀t∈o.looksAt l.toArray,FO l Φ T n t (ρ t) w)->Yk P (fun v w' =>R n w w' /\Φ n v w') ((execOp (Ab ρ) o).run P w)):JF P l C R Φ T n o:=by
 intro ρ w hC hl;have:AX l o ρ=true:=by unfold AX;rw[hg]
 rw[if_pos this];exact h ρ w hC hl
theorem Yk.value{K:Abs->Abt->Prop}{r:Af3 Next}{v:Abs}{w' :Abt}(hr:r = .ok (.value v) w')(h:K v w'):Yk P K r:=by rw[hr];exact h
abbrev AaL:=@Yk.value
theorem Yk.enter{K:Abs->Abt->Prop}{r:Af3 Next}{f:Ade}{args:Array Abs}{w' :Abt}(hr:r = .ok (.enter f args) w')(h:Calls P f args w' fun e w'' =>∃v,e = .returned v/\K v w''):Yk P K r:=by rw[hr];exact h
end
def Plain(P:AbN)(f:Ade):Prop:=∀xs w,(callFunc f xs).run P w = .ok (.enter f xs) w
theorem HP{P:AbN}{f:Ade}(hp:Plain P f)(ρ:AbD->Abs)(args:List AbD)(at_:Array Abz)(dst:Option Tmp)(ty:Abz)(pos:String)(af:Array Ack)(gd:Option (Nat × Bool))(w:Abt) 
  (hρ:ρ (.func f) = .func (.func f) #[] #[]):(execOp ρ ⟨dst, .call ⟨.value (.func f),args.toArray,at_⟩,ty,pos,af,gd⟩).run P w = .ok (.enter f (args.map ρ).toArray) w:=by
 simp[execOp,resolve,invoke,Deferred.ofValue,hρ,hp _ w]
theorem Yk.call{P:AbN}{K:Abs->Abt->Prop}{f:Ade}(hp:Plain P f){ρ:Tmp->Abs}{args:List AbD}{at_:Array Abz}{dst:Option Tmp}{ty:Abz}{pos:String}{af:Array Ack}{gd:Option (Nat × Bool)}{w:Abt} 
  (h:Calls P f (args.map (Ab ρ)).toArray w fun e w'' =>∃v,e = .returned v/\K v w''):Yk P K ((execOp (Ab ρ) ⟨dst, .call ⟨.value (.func f),args.toArray,at_⟩,ty,pos,af,gd⟩).run P w):=
 Yk.enter (HP hp (Ab ρ) args at_ dst ty pos af gd w rfl) h
def Stab(R:Abt->Abt->Prop)(φ:BJ):Prop:=∀v w w',φ v w->R w w' ->φ v w'
theorem X5{R:Abt->Abt->Prop}(v:Abs):Stab R (Is v):=fun _ _ _ h _=>h
theorem Stab.any{R:Abt->Abt->Prop}:Stab R (fun _ _=>True):=fun _ _ _ _ _=>trivial
def AllStab(R:Abt->Abt->Prop):List BJ->Prop
 | []=>True
 | φ :: r=>Stab R φ/\AllStab R r
theorem XH{R:Abt->Abt->Prop}{a b:Abs}{Φs:List BJ}(h:AllStab R Φs):AllStab R (Is a :: Is b :: Φs):=⟨X5 _,X5 _,h⟩
theorem XI{R:Abt->Abt->Prop}{a b c e:Abs}{Φs:List BJ}(h:AllStab R Φs):AllStab R (Is a :: Is b :: Is c :: Is e :: Φs):=⟨X5 _,X5 _,X5 _,X5 _,h⟩
theorem Xu{R:Abt->Abt->Prop}{a b c e f:Abs}{Φs:List BJ}(h:AllStab R Φs):AllStab R (Is a :: Is b :: Is c :: Is e :: Is f :: Φs):=⟨X5 _,X5 _,X5 _,X5 _,X5 _,h⟩
theorem XJ{R:Abt->Abt->Prop}{a b c e f g:Abs}{Φs:List BJ}(h:AllStab R Φs):AllStab R (Is a :: Is b :: Is c :: Is e :: Is f :: Is g :: Φs):=⟨X5 _,X5 _,X5 _,X5 _,X5 _,X5 _,h⟩
theorem XK{R:Abt->Abt->Prop}{a b c e f g i:Abs}{Φs:List BJ}(h:AllStab R Φs):AllStab R (Is a :: Is b :: Is c :: Is e :: Is f :: Is g :: Is i :: Φs):=⟨X5 _,X5 _,X5 _,X5 _,X5 _,X5 _,X5 _,h⟩
theorem XA{R:Abt->Abt->Prop}{a b c e f g i j k l:Abs}{Φs:List BJ}(h:AllStab R Φs):AllStab R (Is a :: Is b :: Is c :: Is e :: Is f :: Is g :: Is i :: Is j :: Is k :: Is l :: Φs):=⟨X5 _,X5 _,X5 _,X5 _,X5 _,X5 _,X5 _,X5 _,X5 _,X5 _,h⟩
theorem S3{R:Abt->Abt->Prop}{a b c e f g i j k l m n:Abs}{Φs:List BJ}(h:AllStab R Φs):AllStab R (Is a :: Is b :: Is c :: Is e :: Is f :: Is g :: Is i :: Is j :: Is k :: Is l :: Is m :: Is n :: Φs):=⟨X5 _,X5 _,X5 _,X5 _,X5 _,X5 _,X5 _,X5 _,X5 _,X5 _,X5 _,X5 _,h⟩
theorem AllStab.get{R:Abt->Abt->Prop}:∀(Φs:List BJ),AllStab R Φs->∀i,Stab R (Φs.getD i (fun _ _=>True))
 | [],_,i=>by simpa using Stab.any
 | φ :: r,h,0=>h.1
 | φ :: r,h,i+1=>by simpa using AllStab.get r h.2 i
def EF(Φs:List BJ)(i:Nat):BJ:=Φs.getD i (fun _ _=>True)
def Ext(w w' :Abt):Prop:=Below w.heap.size w w'
theorem Ext.refl(w:Abt):Ext w w:=Aco _ _
abbrev AaF:=@Ext.refl
theorem Ext.trans{a b c:Abt}(h:Ext a b)(k:Ext b c):Ext a c:=Below.trans h (k.mono h.size)

theorem L5{P:AbN}{l:List AbM}(Φs:List BJ){id:Nat}{Q:Aei->Act->Abt->Prop}{w:Abt}(hm:P.follows .mixedOrders=true)(T:Array Abs)(df:List Deferred) 
  (hg:DJ l T.size=true) (ds:List Tmp) (hds:slotsW l=ds) (hst:AllStab Ext Φs) (hs:StepsOk P l (fun _=>Ext w) (fun _=>Ext) (EF Φs) T 0 l)
  (hQ:∀(u:Tmp->Abs) w',Ext w w' ->C4 l (fun _=> []) (EF Φs) u w' ds->Q .normal { tmps:=Dn T ds u,defers:=df } w'):(Code.region id l.toArray true).wp P Q { tmps:=T,defers:=df } w:=
 Gh (fun _=> []) (Ext w) (fun _=>Ext) (EF Φs) hm T df hg
  (by unfold FC;simp) ds hds (fun _ _ _ h k=>h.trans k) (fun _ i _ _ _ _ _=>hst.get Φs i) (fun _ _ w _ _=>AaF w) (Aco _ _).drew hs hQ
theorem Yv{n i:Nat}:¬On (Adg n false) i:=fun h=>by
 unfold On at h;rw[Aci,Adw]at h;split at h <;> simp at h
theorem KG{P:AbN}{l:List AbM}(ks:List Nat)(kill:Nat->List Nat)(C:Abt->Prop)(Rk:Abt->Abt->Prop)(Φs:List BJ){id:Nat}{Q:Aei->Act->Abt->Prop}{w:Abt}(hm:P.follows .mixedOrders=true)(T:Array Abs)(df:List Deferred) 
  (hg:DJ l T.size=true) (hkl:FC l kill=true) (ds:List Tmp) (hds:slotsW l=ds) (hC:∀w w',C w->Ext w w' ->C w') (hCk:∀w w',C w->Rk w w' ->C w') (hRk:∀w,Rk w w) (h0:C w.drew) (hst:AllStab Ext Φs)
  (hsk:∀n i,n∈ks->i<l.length->i∉kill n->i≠n->((AY l []).getD i 0).testBit n=false->Stab Rk (EF Φs i))
  (hs:StepsOk P l (fun _=>C) (fun n=>if n∈ks then Rk else Ext) (EF Φs) T 0 l)
  (hQ:∀(u:Tmp->Abs) w',C w' ->C4 l kill (EF Φs) u w' ds->Q .normal { tmps:=Dn T ds u,defers:=df } w'):(Code.region id l.toArray true).wp P Q { tmps:=T,defers:=df } w:=by
 refine Gh kill C (fun n=>if n∈ks then Rk else Ext) (EF Φs) hm T df hg hkl ds hds (fun n w w' h k=> ?_) (fun n i _ hi hk hne hb=> ?_) (fun n _ w _ _=> ?_) h0 hs hQ
 ·by_cases hn:n∈ks
  ·rw[if_pos hn]at k;exact hCk _ _ h k
  ·rw[if_neg hn]at k;exact hC _ _ h k
 ·by_cases hn:n∈ks
  ·rw[if_pos hn];exact hsk n i hn hi hk hne hb
  ·rw[if_neg hn];exact hst.get Φs i
 ·by_cases hn:n∈ks
  ·rw[if_pos hn];exact hRk w
  ·rw[if_neg hn];exact AaF w
variable {P : AbN}
theorem Mq{w:Abt}{src dst e:Abz}(hs:P.underlying src=some (.slice e))(he:P.underlying e=some (.int .u8))(hd:P.underlying dst=some .string){v:Abs}{l:AgP}(h:RB w v l):
  (convert src dst v).run P w = .ok (.string ⟨l.toArray⟩) w:=by
 obtain⟨h1,ao,cap,rfl,h2,h3,h4,h5⟩:=h;cases ao with
 | none=>
  obtain⟨h6,rfl⟩:=h4 rfl;have:l= []:=Acm h6;subst this;rw[run_convert_bytes_string w src dst e _ _ _ hs he hd];simp[Conv.bytesToString,AbE];rfl
 | some a=>exact run_convert_bytes_back w src dst e a cap l hs he hd (fun j hj=>h5 a rfl j _ (by simp[Abv,hj]))
theorem NR{ops:Array AbM}{rest:List AbM}{o:AbM}{a:Act}{w:Abt}{Q:Aei->Act->Abt->Prop}(hgd:o.guard=none)(src dst:Abz)(x:AbD)(ho:o.op = .convert src dst x) 
  {e:Abz} (hs:P.underlying src=some (.slice e)) (he:P.underlying e=some (.int .u8)) (hd:P.underlying dst=some .string) (v:Abs) (l:AgP) (hx:a.eval x=v) (h:RB w v l)
  (hK:wpList P ops Q rest (a.put o.dst (.string ⟨l.toArray⟩)) w):wpList P ops Q (o :: rest) a w:=
 wpList_plain hgd fun K hK' =>by
  have hr:=Mq (P:=P) hs he hd h;unfold AdJ execOp;simp only[ho,hx,hr,AbC,AbE,AbB];exact hK' _ _ hK
theorem Mr(a b:AgP):(⟨a.toArray⟩:ByteArray)++⟨b.toArray⟩=⟨(a++b).toArray⟩:=by
 apply ByteArray.ext
 rw[ByteArray.data_append];simp
theorem Z9{K:Abs->Abt->Prop}{ρ:Tmp->Abs}{t ty2:Abz}{x y:AbD}{d:Option Tmp}{ty:Abz}{pos:String}{af:Array Ack}{gd:Option (Nat × Bool)}{w:Abt}{l1 l2:AgP} 
  (hx:Ab ρ x = .string ⟨l1.toArray⟩) (hy:Ab ρ y = .string ⟨l2.toArray⟩) (hb:l1.length+l2.length<=9223372036854775807) (hk:K (.string ⟨(l1++l2).toArray⟩) w):Yk P K ((execOp (Ab ρ) ⟨d, .binOp .add t x y ty2,ty,pos,af,gd⟩).run P w):=by
 refine AaL (v:= .string ⟨(l1++l2).toArray⟩) (w' :=w) ?_ hk;have hr:=run_string_add_sum (P:=P) (w:=w) ⟨l1.toArray⟩ ⟨l2.toArray⟩ (show l1.toArray.size+l2.toArray.size<=_ from hb);rw[Mr]at hr;simp[execOp,hx,hy,eqGuard,binOp,hr]
theorem Yk.append{K:Abs->Abt->Prop}{ρ:Tmp->Abs}(s x:AbD){t tx:Abz}{d:Option Tmp}{ty:Abz}{pos:String}{af:Array Ack}{gd:Option (Nat × Bool)}{w:Abt} 
  (base:Nat) (e:Abz) (z:Abs) (size bytes:Nat) (ht:P.underlying t=some (.slice e)) (hi:(P.info? e).map (fun i=>(i.zero,i.size,i.bytes))=some (some z,size,bytes)) (hzs:z.cells.size=size)
  (n:Nat) (xs:List Abs) (hown:w.ownsRow base e size (Ab ρ s) n xs) (m:Nat) (news:List Abs) (hsrc:Src P size tx (Ab ρ x) m news w)
  (h63:n+m<=maxLen) (hbytes:(n+m)*bytes<=140737488355328) (hbase:base<=w.heap.size)
  (h:∀v' w',w'.ownsRow base e size v' (n+m) (xs++news)->Grew w w' (Ab ρ s) v' ->K v' w'):
  Yk P K ((execOp (Ab ρ) ⟨d, .call ⟨.builtin .append,[s,x].toArray,[t,tx].toArray⟩,ty,pos,af,gd⟩).run P w):=by
 obtain⟨i,hi,hz,hsize,hby⟩:=info_parts hi;obtain⟨v',w',hr,h2,h3⟩:=EV (P:=P) w base t tx ty e i z size bytes ht hi hz hsize hby hzs (Ab ρ s) n xs hown (Ab ρ x) m news hsrc h63 hbytes hbase;refine AaL (v:=v') (w' :=w') ?_ (h v' w' h2 h3);unfold execOp;simp only[resolve,invoke,builtin,AbC,AbE,AbB,AbI,AbL,AbP,hr]
theorem Stab.rb(l:AgP):Stab Ext (fun x w=>RB w x l):=fun _ _ _ h k=>h.keep k
theorem Ext.grown{w w' :Abt}(h:Ext w w'):w.grownBy w' none:=⟨h.os,h.tape,h.output,h.size,fun k hk _=>h.block k hk⟩
theorem Aaa{w w' :Abt}(h:w.grownBy w' none):Ext w w' :=(Aco _ _).grown h (Abx _) (fun k hk=>by cases hk)
theorem Stab.own(base:Nat)(e:Abz)(size:Nat)(n:Nat)(xs:List Abs):Stab Ext (fun x w=>w.ownsRow base e size x n xs):=fun v _ _ h k=>h.kept k.grown (by cases v.ownBlock <;> simp)
abbrev AaX:=@Stab.own
theorem NewB.ext{e:Abz}{w w' :Abt}{v:Abs}{l:AgP}(h:NewB e w w' v l):Ext w w' :=h.below

theorem YF{w w' :Abt}(h:Ext w w'){b:Nat}{o:Obj}(hb:w.heap[b]? =some o):w'.heap[b]? =some o:=
 (h.block b (Acg.1 hb).1).trans hb
theorem eb{w w' :Abt}(h:Ext w w'){b:Nat}{o:Obj}(hb:w.heap[b]? =some o):w'.heap[b]? =some o:=YF h hb
theorem Aan{K:Abs->Abt->Prop}{ρ:Tmp->Abs}(s x:AbD){dT sT elem:Abz}{d:Option Tmp}{ty:Abz}{pos:String}{af:Array Ack}{gd:Option (Nat × Bool)}{w:Abt} 
  (hu:P.underlying dT=some (.slice elem)) (hsz:(P.info? elem).map (·.size)=some 1) {g o dLen dCap:Nat} (hs:Ab ρ s = .slice (some ⟨g,o,none⟩) dLen dCap) {l:AgP} (hx:RB w (Ab ρ x) l)
  {cur:Array Abs} {t:Abz} (hg:w.heap[g]? =some (.cells cur t (0,0))) (hfit:o+Ad4 l.length dLen<=cur.size)
  (h:K (goInt (Ad4 l.length dLen)) (w.setRow g (cur.toList.take o++Abv (l.take dLen)++cur.toList.drop (o+Ad4 l.length dLen)).toArray)):
  Yk P K ((execOp (Ab ρ) ⟨d, .call ⟨.builtin .copy,[s,x].toArray,[dT,sT].toArray⟩,ty,pos,af,gd⟩).run P w):=by
 obtain⟨h1,ao,cap,hv,h2,h3,h4,h5⟩:=hx;have hlen:(Abv (l.take dLen)).length=Ad4 l.length dLen:=by rw[AbH,AbR];exact Nat.min_comm _ _
 refine AaL (v:=goInt (Ad4 l.length dLen)) (w' :=w.setRow g (cur.toList.take o++Abv (l.take dLen)++cur.toList.drop (o+Ad4 l.length dLen)).toArray) ?_ h;have hrun:(Builtin.copy_ #[dT,sT] ty #[.slice (some ⟨g,o,none⟩) dLen dCap, .slice ao l.length cap]).run P w = .ok (goInt (Ad4 l.length dLen)) (w.setRow g (cur.toList.take o++Abv (l.take dLen)++cur.toList.drop (o+Ad4 l.length dLen)).toArray):=by
  cases ao with
  | none=>
   obtain⟨h6,rfl⟩:=h4 rfl;have:l= []:=Acm h6;subst this;have hr:=run_copy_nil (P:=P) w dT sT ty elem ⟨g,o,none⟩ dLen dCap hu (by rw[hsz];rfl);have e:(cur.toList.take o++Abv ([].take dLen)++cur.toList.drop (o+Ad4 ([]:AgP).length dLen)).toArray=cur:=by
    simp[Abv]
   rw[e,setRow_self w g cur t (0,0) hg]
   simpa using hr
  | some a=>
   have hr:=run_copy_row (P:=P) w dT sT ty elem g o dLen dCap a l.length cap cur t (Abv (l.take dLen)) hu hsz hg hlen (fun j v hj=>h5 a rfl j v (by
    have hj' :=hj;simp only[Abv,Afd,Adr]at hj';split at hj'
    ·exact hj'
    ·cases hj')) (by rw[hlen];exact hfit) (Aw _)
   rw[hlen]at hr;exact hr
 unfold execOp;simp only[resolve,invoke,builtin,AbC,AbE,AbB,AbI,AbL,AbP,hs,hv,hrun]
theorem HQ{ops:Array AbM}{rest:List AbM}{o:AbM}{a:Act}{w:Abt}{Q:Aei->Act->Abt->Prop}(hgd:o.guard=none)(v:Abs)(w' :Abt)(hr:(execOp a.eval o).run P w = .ok (.value v) w') 
  (h:wpList P ops Q rest (a.put o.dst v) w'):wpList P ops Q (o :: rest) a w:=
 wpList_plain hgd fun K hK=>by
  unfold AdJ;rw[hr];exact hK _ _ h
/-! ### Whole arrays and structs in blocks of their own -/
theorem Gi(w:Abt)(g:Nat)(ty:Abz)(cells cur:Array Abs)(t:Abz)(hg:w.heap[g]? =some (.cells cur t (0,0)))(hs:cells.size=cur.size)(hi:(P.info? ty).map (·.size)=some cells.size)(h1:∀v∈cells.toList,v.oneCell' =true):
  (Aer ty (.pointer (some ⟨g,0,none⟩)) (.agg cells)).run P w = .ok () (w.setRow g cells):=by
 have hst:=run_storeCells_at P g 0 t cells.toList 0 cur w hg (by simp[hs]) h1;have e:(cur.toList.take (0+0)++cells.toList++cur.toList.drop (0+0+cells.toList.length)).toArray=cells:=by
  simp;rw[List.drop_of_length_le (by simp[hs])];simp
 rw[e]at hst;cases hq:P.info? ty with
 | none=>simp[hq]at hi
 | some i=>
  have hs:cells.size=i.size:=by simp[hq]at hi;omega
  simp[Aer,AdW,storeVar,sizeOf,typeInfo,hq,Value.cells,hs,hst]
theorem Ji{ops:Array AbM}{rest:List AbM}{o:AbM}{a:Act}{w:Abt}{Q:Aei->Act->Abt->Prop}(hgd:o.guard=none)(ty:Abz)(x y:AbD)(ho:o.op = .store ty x y) 
  (g:Nat) (hx:a.eval x = .pointer (some ⟨g,0,none⟩)) (cells cur:Array Abs) (t:Abz) (hy:a.eval y = .agg cells) (hg:w.heap[g]? =some (.cells cur t (0,0))) (hs:cells.size=cur.size) (hi:(P.info? ty).map (·.size)=some cells.size) (h1:∀v∈cells.toList,v.oneCell' =true)
  (h:wpList P ops Q rest (a.put o.dst undef) (w.setRow g cells)):wpList P ops Q (o :: rest) a w:=
 wpList_plain hgd fun K hK=>by
  have hr:=Gi (P:=P) w g ty cells cur t hg hs hi h1;unfold AdJ execOp;simp only[ho,hx,hy,hr,AbC,AbE,AbB];exact hK _ _ h
theorem Fy{ops:Array AbM}{rest:List AbM}{o:AbM}{a:Act}{w:Abt}{Q:Aei->Act->Abt->Prop}(hgd:o.guard=none)(ty:Abz)(x y:AbD)(ho:o.op = .store ty x y) 
  (g:Nat) (hx:a.eval x = .pointer (some ⟨g,0,none⟩)) (cells:Array Abs) (t:Abz) (hy:a.eval y = .agg cells) (hg:w.heap[g]? =some (.cells cells t (0,0))) (hi:(P.info? ty).map (·.size)=some cells.size) (h1:∀v∈cells.toList,v.oneCell' =true)
  (h:wpList P ops Q rest (a.put o.dst undef) w):wpList P ops Q (o :: rest) a w:=
 Ji hgd ty x y ho g hx cells cells t hy hg rfl hi h1 (by rw[setRow_self w g cells t (0,0) hg];exact h)
theorem HF{fn:AdT}{p q r:Tmp}{ty:Abz}(h:fn.results = #[.cell p ty, .tmp q, .tmp r])(tmps:Array Abs)(w:Abt)(g:Nat)(t:Abz)(cs:Array Abs)(fr:Nat × Nat)(d:TypeDesc) 
  (hp:tmps.getD p undef = .pointer (some ⟨g,0,none⟩)) (hg:w.heap[g]? =some (.cells cs t fr))
  (hu:P.underlying ty=some d) (hd:(match d with | .struct _ | .array _ _=>true | _=>false)=true) (hi:(P.info? ty).map (·.size)=some cs.size):
  (results fn tmps).run P w = .ok (.tuple #[.agg cs,tmps.getD q undef,tmps.getD r undef]) w:=by
 have hp' :tmps[p]?.getD undef = .pointer (some ⟨g,0,none⟩):=by simpa using hp
 simp[results,h,hp',asAddr,run_loadVar_row w g t ty cs fr d hg hu hd hi]
/-! ### Slices of slices -/
theorem FQ(a:Addr)(m n:Nat):(a.add m).add n=a.add (m+n):=by
 cases a with
 | mk b o sp=>
  unfold AdZ;split <;> split <;> simp_all
  all_goals (try omega)
theorem Cl{t e:Abz}{size:Nat}(ht:P.underlying t=some (.slice e))(he:∀w' :Abt,(sizeOf e).run P w' = .ok size w'){w:Abt}{v:Abs}{n:Nat}{xs:List Abs}(hr:Reads w size v n xs)(lo hi:Option Abs)(l h:Nat)(hlh:l<=h)(hn:h<=n) 
  (hlo:lo=none/\l=0\/∃k,lo=some (.int k l)) (hhi:hi=none/\h=n\/∃k,hi=some (.int k h)):
  ∃ao c,((AdM t v lo hi none).run P w = .ok (.slice ao (h-l) c) w/\(Value.slice ao (h-l) c).ownBlock=v.ownBlock)/\Reads w size (.slice ao (h-l) c) (h-l) ((xs.drop (l*size)).take ((h-l)*size)):=by
 obtain⟨h1,ao,cap,rfl,h2,h3,h4,h5⟩:=hr;have hE:P.elem t=e:=by simp[Program.elem,ht]
 have ht' :P.underlying t=some (.slice (P.elem t)):=by rw[hE];exact ht
 refine⟨if cap=l then ao else ao.map (·.add (l*size)),cap-l,⟨?_,?_⟩,?_,_,_,rfl,by omega,by omega,?_,?_⟩
 ·rw[run_sliceAt_slice (P:=P) w t _ _ _ _ ht'];have hl' :(l:Int)<=(h:Int):=by omega
  have hh' :(h:Int)<=(cap:Int):=by omega
  have hn' :(l:Int)<=(n:Int):=by omega
  rcases hlo with ⟨rfl,rfl⟩ | ⟨k,rfl⟩ <;> rcases hhi with ⟨rfl,rfl⟩ | ⟨k',rfl⟩
  ·rw[run_slice_all (P:=P) w t ao h cap ht',hE,he];simp[Acj,sliced]
  ·rw[run_slice_h (P:=P) w t ao n cap ht' k' h (by omega) hh',hE,he];simp[Acj,sliced]
  ·rw[run_slice_l (P:=P) w t ao h cap ht' k l (by omega) hl',hE,he];simp[Acj,sliced]
  ·rw[run_slice_lh (P:=P) w t ao n cap ht' k k' l h (by omega) hl' hh',hE,he];simp[Acj,sliced]
 ·cases ao with
  | none=>simp[Acb]
  | some x=>
   split
   ·rfl
   ·simp only[AcO,Acb,Option.some.injEq];unfold AdZ;split <;> rfl
 ·rw[AbR,AbS,h1];have:(h-l)*size<=n*size-l*size:=by rw[<-Nat.sub_mul];exact AdQ _ (by omega)
  omega
 ·intro hnone;have:ao=none:=by
   cases ao with
   | none=>rfl
   | some x=>split at hnone <;> simp at hnone
  obtain⟨h6,h7⟩:=h4 this;omega
 ·intro a ha j u hu;have hj:j<((xs.drop (l*size)).take ((h-l)*size)).length:=(AbW.1 hu).1;have hj2:j<(h-l)*size:=by rw[AbR]at hj;omega
  have hhl:h-l≠0:=fun e=>by rw[e]at hj2;simp at hj2
  rw[if_neg (by omega)]at ha;cases ao with
  | none=>simp at ha
  | some x=>
   simp at ha;subst ha;rw[FQ];refine h5 x rfl _ _ ?_;rw[Adr,if_pos hj2,AdG]at hu;exact hu
theorem IP{t e:Abz}{size:Nat}(ht:P.underlying t=some (.slice e))(he:∀w' :Abt,(sizeOf e).run P w' = .ok size w'){w:Abt}{v:Abs}{n:Nat}{xs:List Abs}(hr:Reads w size v n xs)(lo hi:Option Abs)(l h:Nat)(hlh:l<=h)(hn:h<=n) 
  (hlo:lo=none/\l=0\/∃k,lo=some (.int k l)) (hhi:hi=none/\h=n\/∃k,hi=some (.int k h)):
  ∃ao c,(AdM t v lo hi none).run P w = .ok (.slice ao (h-l) c) w/\Reads w size (.slice ao (h-l) c) (h-l) ((xs.drop (l*size)).take ((h-l)*size)):=by
 obtain⟨ao,c,h1,h2⟩:=Cl ht he hr lo hi l h hlh hn hlo hhi;exact⟨ao,c,h1.1,h2⟩
theorem Y5{w:Abt}{v:Abs}{xs:AgP}{l h:Nat}(hn:h<=xs.length)(hR:Reads w 1 v (h-l) (((Abv xs).drop (l*1)).take ((h-l)*1))):RB w v ((xs.drop l).take (h-l)):=by
 have a:((xs.drop l).take (h-l)).length=h-l:=by rw[AbR,AbS];omega
 unfold RB;rw[a];have b:Abv ((xs.drop l).take (h-l))=((Abv xs).drop (l*1)).take ((h-l)*1):=by
  simp[Abv,Afd,Agf]
 rw[b];exact hR
theorem RB.kept{w w' :Abt}{v:Abs}{l:AgP}(h:RB w v l){row:Option Nat}(hg:w.grownBy w' row)(hv:v.ownBlock=none\/v.ownBlock≠row):RB w' v l:=by
 obtain⟨h1,ao,cap,rfl,h2,h3,h4,h5⟩:=h;refine⟨h1,ao,cap,rfl,h2,h3,h4,fun a ha j u hu=> ?_⟩;have hc:=h5 a ha j u hu;subst ha;have hlt:=AcL w _ hc;have hbl:(a.add j).block=a.block:=by unfold AdZ;split <;> rfl
 have hne:(some a.block)≠row:=by
  rcases hv with hv | hv
  ·cases hv
  ·exact hv
 rw[hbl]at hlt;rw[World.cell?_of_block (w:=w) (by rw[hbl];exact hg.block a.block hlt hne)];exact hc
theorem IS{t e:Abz}(ht:P.underlying t=some (.slice e))(he:∀w' :Abt,(sizeOf e).run P w' = .ok 1 w'){w:Abt}{v:Abs}{xs:AgP}(hr:RB w v xs)(lo hi:Option Abs)(l h:Nat)(hlh:l<=h)(hn:h<=xs.length) 
  (hlo:lo=none/\l=0\/∃k,lo=some (.int k l)) (hhi:hi=none/\h=xs.length\/∃k,hi=some (.int k h)):
  ∃ao c,(AdM t v lo hi none).run P w = .ok (.slice ao (h-l) c) w/\RB w (.slice ao (h-l) c) ((xs.drop l).take (h-l)):=by
 obtain⟨ao,c,hrun,hR⟩:=IP ht he hr lo hi l h hlh hn hlo hhi;refine⟨ao,c,hrun,?_⟩;have a:((xs.drop l).take (h-l)).length=h-l:=by rw[AbR,AbS];omega
 unfold RB;rw[a];have b:Abv ((xs.drop l).take (h-l))=((Abv xs).drop (l*1)).take ((h-l)*1):=by
  simp[Abv,Afd,Agf]
 rw[b];exact hR
theorem GH{ops:Array AbM}{rest:List AbM}{o:AbM}{a:Act}{w:Abt}{Q:Aei->Act->Abt->Prop}(hgd:o.guard=none)(t:Abz)(x:AbD)(lo hi:Option AbD)(ho:o.op = .slice t x lo hi none) 
  {e:Abz} (ht:P.underlying t=some (.slice e)) (he:∀w' :Abt,(sizeOf e).run P w' = .ok 1 w') (v:Abs) (xs:AgP) (hx:a.eval x=v) (hr:RB w v xs) (l h:Nat) (hlh:l<=h) (hn:h<=xs.length)
  (hlo:lo.map a.eval=none/\l=0\/∃k,lo.map a.eval=some (.int k l)) (hhi:hi.map a.eval=none/\h=xs.length\/∃k,hi.map a.eval=some (.int k h))
  (hK:∀ao c,RB w (.slice ao (h-l) c) ((xs.drop l).take (h-l))->wpList P ops Q rest (a.put o.dst (.slice ao (h-l) c)) w):wpList P ops Q (o :: rest) a w:=
 wpList_plain hgd fun K hK' =>by
  obtain⟨ao,c,hrun,hR⟩:=IS ht he hr (lo.map a.eval) (hi.map a.eval) l h hlh hn hlo hhi;unfold AdJ execOp;simp only[ho,hx,Adl,hrun,AbC,AbE,AbB];exact hK' _ _ (hK ao c hR)
theorem RB.open_{w:Abt}{v:Abs}{l:AgP}(h:RB w v l)(hl:0<l.length):∃b off cap,v = .slice (some ⟨b,off,none⟩) l.length cap/\l.length<=cap/\cap<=9223372036854775807/\b<w.heap.size/\∀i,i<l.length->w.cell? ⟨b,off+i,none⟩=some (.int .u8 ((l.getD i 0).toNat:Int)):=by
 obtain⟨h1,ao,cap,rfl,h2,h3,h4,h5⟩:=h;cases ao with
 | none=>have:=(h4 rfl).1;omega
 | some a=>
  obtain⟨b,off,sp⟩:=a;have hc:∀i,i<l.length->w.cell? ((⟨b,off,sp⟩:Addr).add i)=some (.int .u8 ((l.getD i 0).toNat:Int)):=fun i hi=>h5 _ rfl i _ (by simp[Abv,hi]);have hsp:sp=none:=by
   have:=hc 0 hl
   simpa [AdZ] using World.cell?_spot this
  subst hsp;refine⟨b,off,cap,rfl,h2,by simpa [maxLen] using h3,AcL w _ (hc 0 hl),fun i hi=> ?_⟩;have:=hc i hi
  rwa [AcT]at this
theorem ZY{K:Abs->Abt->Prop}{ρ:Tmp->Abs}{t e:Abz}{x:AbD}{lo hi:Option AbD}{d:Option Tmp}{ty:Abz}{pos:String}{af:Array Ack}{gd:Option (Nat × Bool)}{w:Abt} 
  (ht:P.underlying t=some (.slice e)) (he:∀w' :Abt,(sizeOf e).run P w' = .ok 1 w') {xs:AgP} (hr:RB w (Ab ρ x) xs) (l h:Nat) (hlh:l<=h) (hn:h<=xs.length)
  (hlo:lo.map (Ab ρ)=none/\l=0\/∃k,lo.map (Ab ρ)=some (.int k l)) (hhi:hi.map (Ab ρ)=none/\h=xs.length\/∃k,hi.map (Ab ρ)=some (.int k h))
  (hK:∀ao c,RB w (.slice ao (h-l) c) ((xs.drop l).take (h-l))->K (.slice ao (h-l) c) w):Yk P K ((execOp (Ab ρ) ⟨d, .slice t x lo hi none,ty,pos,af,gd⟩).run P w):=by
 obtain⟨ao,c,hrun,hR⟩:=IS ht he hr (lo.map (Ab ρ)) (hi.map (Ab ρ)) l h hlh hn hlo hhi;refine AaL (v:= .slice ao (h-l) c) (w' :=w) ?_ (hK ao c hR);unfold execOp;simp only[Adl,hrun,AbC,AbE,AbB]
abbrev Ah:=Tmp->Abs
def Ms(ρ:Ah)(d:Tmp)(v:Abs):Ah:=fun t=>cond (Ae4 t d) v (ρ t)
def updO(ρ:Ah)(d:Option Tmp)(v:Abs):Ah:=match d with
 | none=>ρ
 | some d=>Ms ρ d v
structure Fits (n : Nat) (ρ : Ah) (a : Act) : Prop where
 size:a.tmps.size=n
 defers:a.defers= []
 get:∀t,a.tmps.getD t undef=ρ t
theorem Fits.eval{n:Nat}{ρ:Ah}{a:Act}(h:Fits n ρ a):a.eval=Ab ρ:=by
 funext x
 cases x with
 | tmp t=>exact h.get t
 | _=>rfl
theorem Fits.put{n:Nat}{ρ:Ah}{a:Act}(h:Fits n ρ a)(d:Option Tmp)(hd:∀t,d=some t->t<n)(v:Abs):Fits n (updO ρ d v) (a.put d v):=by
 cases d with
 | none=>exact h
 | some d=>
  have hdn:=hd d rfl;refine⟨by simp[Act.put,h.size],h.defers,fun t=> ?_⟩;have hg:=h.get t;simp only[updO,Ms,Act.put,Aci,Array.getElem?_setIfInBounds,h.size]at hg ⊢;by_cases htd:t=d
  ·subst htd;simp[hdn]
  ·have hb:Ae4 t d=false:=by
    cases hb:Ae4 t d with
    | false=>rfl
    | true=>exact absurd (Af4 hb) htd
   rw[hb,if_neg (fun e=>htd e.symm)];exact hg
theorem HT{T:Array Abs}{d:Nat}{b:Bool}(h:T.getD d undef = .bool b):T[d]? =some (.bool b):=by
 rw[Aci]at h;cases hx:T[d]? with
 | none=>rw[hx]at h;cases h
 | some x=>rw[hx]at h;simp at h;rw[h]
abbrev Ba:=Aei->Ah->Abt->Prop
def Cb(P:AbN)(n:Nat)(c:Ac7)(Q:Ba)(ρ:Ah)(w:Abt):Prop:=
 ∀a,Fits n ρ a->c.wp P (fun e a' w' =>∃ρ',Fits n ρ' a' /\Q e ρ' w') a w
def D3(K:Ah->Abt->Prop)(Q:Ba):Ba
 | .normal,ρ,w=>K ρ w
 | e,ρ,w=>Q e ρ w
def Cs(id:Nat)(Q:Ba):Ba
 | .exit id',ρ,w=>if id' =id then Q .normal ρ w else Q (.exit id') ρ w
 | e,ρ,w=>Q e ρ w
def Ox(Q:Ba):Ba
 | .goto _,_,_=>False
 | e,ρ,w=>Q e ρ w
section
variable {P : AbN} {n : Nat} {Q : Ba} {ρ : Ah} {w : Abt}
theorem wpF_mono{c:Ac7}{Q' :Ba}(h:Cb P n c Q ρ w)(hq:∀e ρ w,Q e ρ w->Q' e ρ w):Cb P n c Q' ρ w:=
 fun a ha=>wp_mono (h a ha) fun e _ w ⟨ρ',hf,hQ⟩=>⟨ρ',hf,hq e ρ' w hQ⟩
theorem FR(h:Q .normal ρ w):Cb P n .skip Q ρ w:=fun _ ha=>wp_skip ⟨ρ,ha,h⟩
theorem S4{id:Nat}(h:Q (.exit id) ρ w):Cb P n (.exit id) Q ρ w:=fun _ ha=>wp_exit ⟨ρ,ha,h⟩
theorem Vk(h:Q .ret ρ w):Cb P n .ret Q ρ w:=fun _ ha=>wp_ret ⟨ρ,ha,h⟩
theorem Oy{x y:Ac7}(h:Cb P n x (D3 (Cb P n y Q) Q) ρ w):Cb P n (.seq x y) Q ρ w:=fun a ha=>
 wp_seq (wp_mono (h a ha) fun e a' w' ⟨ρ',hf,hQ⟩=>by
  cases e with
  | normal=>exact hQ a' hf
  | _=>exact⟨ρ',hf,hQ⟩)
theorem sk{x y:Ac7}(h:∀K:Ah->Abt->Prop,(∀ρ w,Cb P n y Q ρ w->K ρ w)->Cb P n x (D3 K Q) ρ w):Cb P n (.seq x y) Q ρ w:=Oy (h _ fun _ _ h=>h)
theorem FS{c:AbD}{x y:Ac7}(hc:Ab ρ c = .bool true)(h:Cb P n x Q ρ w):Cb P n (.cond c x y) Q ρ w:=fun a ha=>wp_cond_true (by rw[ha.eval];exact hc) (h a ha)
theorem DN{c:AbD}{x y:Ac7}(hc:Ab ρ c = .bool false)(h:Cb P n y Q ρ w):Cb P n (.cond c x y) Q ρ w:=fun a ha=>wp_cond_false (by rw[ha.eval];exact hc) (h a ha)
theorem S5{c:AbD}{x y:Ac7}(p:Prop)[Decidable p](hc:Ab ρ c = .bool (decide p))(h1:p->Cb P n x Q ρ w)(h2:¬p->Cb P n y Q ρ w):Cb P n (.cond c x y) Q ρ w:=by
 by_cases hp:p
 ·exact FS (by rw[hc,decide_eq_true hp]) (h1 hp)
 ·exact DN (by rw[hc,decide_eq_false hp]) (h2 hp)
theorem QC{c:AbD}{x y:Ac7}(b:Bool)(hc:Ab ρ c = .bool b)(h1:b=true->Cb P n x Q ρ w)(h2:b=false->Cb P n y Q ρ w):Cb P n (.cond c x y) Q ρ w:=by
 cases b
 ·exact DN hc (h2 rfl)
 ·exact FS hc (h1 rfl)
theorem QD{id:Nat}{c:Ac7}(h:Cb P n c (Cs id Q) ρ w):Cb P n (.block id c) Q ρ w:=fun a ha=>
 wp_block (wp_mono (h a ha) fun e a' w' ⟨ρ',hf,hQ⟩=>by
  cases e with
  | exit id' =>
   simp only[Cs]at hQ;simp only[Exit.inBlock];split at hQ
   ·rw[if_pos ‹_›];exact⟨ρ',hf,hQ⟩
   ·rw[if_neg ‹_›];exact⟨ρ',hf,hQ⟩
  | _=>exact⟨ρ',hf,hQ⟩)
theorem QE{c:Ac7}(h:Cb P n c (Ox Q) ρ w):Cb P n (.scope c) Q ρ w:=fun a ha=>
 wp_scope_straight (wp_mono (h a ha) fun e a' w' ⟨ρ',hf,hQ⟩=>by
  cases e with
  | goto l=>exact hQ
  | _=>exact⟨ρ',hf,hQ⟩)
theorem S6{c:Ac7}(I:Ah->Abt->Prop)(μ:Ah->Abt->Nat)(h0:I ρ w) 
  (round:∀ρ w,I ρ w->Cb P n c (D3 (fun ρ' w' =>I ρ' w' /\μ ρ' w' <μ ρ w) Q) ρ w):Cb P n (.loop c) Q ρ w:=by
 intro a ha;refine wp_loop (fun a w=>∃ρ,Fits n ρ a/\I ρ w) (fun a w=>μ (fun t=>a.tmps.getD t undef) w) ⟨ρ,ha,h0⟩ ?_;rintro a w ⟨ρ,hf,hI⟩;have he:(fun t=>a.tmps.getD t undef)=ρ:=funext hf.get;refine wp_mono (round ρ w hI a hf) fun e a' w' ⟨ρ',hf',hQ⟩=> ?_;cases e with
 | normal=>exact⟨⟨ρ',hf',hQ.1⟩,by rw[he,show(fun t=>a'.tmps.getD t undef)=ρ' from funext hf'.get];exact hQ.2⟩
 | _=>exact⟨ρ',hf',hQ⟩
/-! ### A region in the order of the text, operation by operation -/
def BV(P:AbN)(ops:Array AbM)(n:Nat)(Q:Ba)(l:List AbM)(ρ:Ah)(w:Abt):Prop:=
 ∀a,Fits n ρ a->wpList P ops (fun e a' w' =>∃ρ',Fits n ρ' a' /\Q e ρ' w') l a w
theorem wt{id:Nat}{l:List AbM}(h:BV P l.toArray n Q l ρ w):Cb P n (.region id l.toArray false) Q ρ w:=fun a ha=>wp_region_lit (h a ha)
theorem oZ{ops:Array AbM}(h:Q .normal ρ w):BV P ops n Q [] ρ w:=fun _ ha=>⟨ρ,ha,h⟩
theorem oS{ops:Array AbM}{rest:List AbM}{dst:Option Tmp}{op:Op}{ty:Abz}{pos:String}{af:Array Ack}(hd:(match dst with | some d=>Adh d n | none=>true)=true) 
  (h:Yk P (fun v w' =>BV P ops n Q rest (updO ρ dst v) w') ((execOp (Ab ρ) ⟨dst,op,ty,pos,af,none⟩).run P w)):BV P ops n Q (⟨dst,op,ty,pos,af,none⟩ :: rest) ρ w:=by
 intro a ha;have hdn:∀t,dst=some t->t<n:=fun t ht=>by subst ht;exact AbF hd
 refine wpList_plain rfl fun K hK=> ?_;unfold AdJ AdV;rw[ha.eval];have hput:=fun v=>ha.put dst hdn v
 revert h
 generalize (execOp (Ab ρ) ⟨dst,op,ty,pos,af,none⟩).run P w=r
 intro h
 match r,h with
 | .ok (.value v) w',h=>exact hK _ _ (h _ (hput v))
 | .ok .skip w',h=>exact hK _ _ (h _ (hput undef))
 | .ok (.enter f args) w',h=>
  refine Ado h ?_;rintro e w'' ⟨v,rfl,hk⟩;exact hK _ _ (hk _ (hput v))
theorem oY{ops:Array AbM}{rest:List AbM}{dst:Option Tmp}{op:Op}{ty:Abz}{pos:String}{af:Array Ack}{g:Nat}{want:Bool}{d:Tmp}(hd:(match dst with | some d=>Adh d n | none=>true)=true)(hg:(ops[g]?).bind (·.dst)=some d)(hv:ρ d = .bool want) 
  (h:Yk P (fun v w' =>BV P ops n Q rest (updO ρ dst v) w') ((execOp (Ab ρ) ⟨dst,op,ty,pos,af,some (g,want)⟩).run P w)):BV P ops n Q (⟨dst,op,ty,pos,af,some (g,want)⟩ :: rest) ρ w:=by
 intro a ha;have hdn:∀t,dst=some t->t<n:=fun t ht=>by subst ht;exact AbF hd
 have hw:AcB ⟨dst,op,ty,pos,af,some (g,want)⟩ (yielded ops a.tmps)=true:=by
  have:=HT ((ha.get d).trans hv);simp only[AcB,yielded,hg];simp[this]
 refine wpList_step fun K hK=> ?_;rw[if_pos hw];unfold AdJ AdV;rw[ha.eval];have hput:=fun v=>ha.put dst hdn v
 revert h
 generalize (execOp (Ab ρ) ⟨dst,op,ty,pos,af,some (g,want)⟩).run P w=r
 intro h
 match r,h with
 | .ok (.value v) w',h=>exact hK _ _ (h _ (hput v))
 | .ok .skip w',h=>exact hK _ _ (h _ (hput undef))
 | .ok (.enter f args) w',h=>
  refine Ado h ?_;rintro e w'' ⟨v,rfl,hk⟩;exact hK _ _ (hk _ (hput v))
theorem oN{ops:Array AbM}{rest:List AbM}{o:AbM}{g:Nat}{want b:Bool}{d:Tmp}(hgd:o.guard=some (g,want))(hd:(match o.dst with | some d=>Adh d n | none=>true)=true)(hg:(ops[g]?).bind (·.dst)=some d)(hv:ρ d = .bool b)(hb:(b==want)=false) 
  (h:BV P ops n Q rest (updO ρ o.dst undef) w):BV P ops n Q (o :: rest) ρ w:=by
 intro a ha;have hdn:∀t,o.dst=some t->t<n:=fun t ht=>by rw[ht]at hd;exact AbF hd
 have hw:AcB o (yielded ops a.tmps)=false:=by
  have:=HT ((ha.get d).trans hv);simp only[AcB,hgd,yielded,hg]
  simpa [this] using hb
 refine wpList_step fun K hK=> ?_;rw[if_neg (by rw[hw];simp)];exact hK _ _ (h _ (ha.put o.dst hdn undef))
/-! ### A region that draws its order, by facts -/
def JG(l:List AbM)(Φ:Nat->BJ)(ρ:Ah)(n:Nat)(t:Tmp)(x:Abs)(w:Abt):Prop:=
 match Dy l t n with
 | none=>x=ρ t
 | some k=>Φ k x w
def O4(P:AbN)(l:List AbM)(C:Nat->Abt->Prop)(R:Nat->Abt->Abt->Prop)(Φ:Nat->BJ)(ρ:Ah)(n:Nat)(o:AbM):Prop:=
 ∀(σ:Ah) (w:Abt),C n w->(∀t∈o.looksAt l.toArray,JG l Φ ρ n t (σ t) w) ->
  if AX l o σ=true then Yk P (fun v w' =>R n w w' /\Φ n v w') ((execOp (Ab σ) o).run P w)else Φ n undef w
def StepsF(P:AbN)(l:List AbM)(C:Nat->Abt->Prop)(R:Nat->Abt->Abt->Prop)(Φ:Nat->BJ)(ρ:Ah):Nat->List AbM->Prop
 | _,[]=>True
 | n,o :: r=>O4 P l C R Φ ρ n o/\StepsF P l C R Φ ρ (n+1) r
theorem StepsF.ok{l:List AbM}{C:Nat->Abt->Prop}{R:Nat->Abt->Abt->Prop}{Φ:Nat->BJ}{T:Array Abs}(hT:∀t,T.getD t undef=ρ t):∀(r:List AbM) (k:Nat),StepsF P l C R Φ ρ k r->StepsOk P l C R Φ T k r
 | [],_,_=>trivial
 | o :: r,k,h=>⟨fun σ w hC hl=>h.1 σ w hC (fun t ht=>by
  have:=hl t ht;unfold FO at this;unfold JG;split
  ·rename_i e;rw[e]at this;rw[<-hT];exact this
  ·rename_i e;rw[e]at this;exact this),StepsF.ok hT r (k+1) h.2⟩
theorem NS{T:Array Abs}(hT:∀t,T.getD t undef=ρ t)(ds:List Tmp)(hds:∀d∈ds,d<T.size)(u:Ah):∀t,(Dn T ds u).getD t undef=if t∈ds then u t else ρ t:=fun t=>by
 by_cases ht:t<T.size
 ·rw[HN u t ds T ht,<-hT]
 ·have h1:(Dn T ds u).getD t undef=undef:=by
   rw[Aci,Ad7 (by rw[EE];omega),Option.getD_none]
  have h2:T.getD t undef=undef:=by rw[Aci,Ad7 (by omega),Option.getD_none]
  rw[h1,if_neg (fun h=>ht (hds t h)),<-hT,h2]
theorem QG{l:List AbM}{n:Nat}(hg:DJ l n=true)(ds:List Tmp)(hds:slotsW l=ds):∀d∈ds,d<n:=by
 intro d hd;rw[<-hds]at hd;unfold slotsW at hd;rw[List.mem_eraseDups,Afa]at hd;obtain⟨o,ho,hod⟩:=hd;obtain⟨j,hj⟩:=List.getElem?_of_mem ho;exact(IF hg).room j o d hj hod
structure EndF (ds : List Tmp) (ρ ρ' : Ah) : Prop where
 old:∀t,ds.contains t=false->ρ' t=ρ t
theorem EndF.at_{ds:List Tmp}{ρ ρ' :Ah}(h:EndF ds ρ ρ'){t:Tmp}{v:Abs}(hv:ρ t=v)(ht:ds.contains t=false):ρ' t=v:=(h.old t ht).trans hv
theorem EW{l:List AbM}(Φs:List BJ){id:Nat}(hm:P.follows .mixedOrders=true)(ds:List Tmp)(hg:DJ l n=true)(hds:slotsW l=ds)(hst:AllStab Ext Φs)(hs:StepsF P l (fun _=>Ext w) (fun _=>Ext) (EF Φs) ρ 0 l) 
  (hQ:∀(ρ' :Ah) w',Ext w w' ->EndF ds ρ ρ' ->C4 l (fun _=> []) (EF Φs) ρ' w' ds->Q .normal ρ' w'):Cb P n (.region id l.toArray true) Q ρ w:=by
 intro a ha;obtain⟨T,df⟩:=a;have hz:T.size=n:=ha.size;subst hz;refine L5 Φs hm T df hg ds hds hst (StepsF.ok ha.get l 0 hs) fun u w' hE hf=> ?_;have hw:=NS ha.get ds (QG hg ds hds) u;refine⟨fun t=>if t∈ds then u t else ρ t,⟨by rw[EE],ha.defers,hw⟩,hQ _ w' hE ⟨fun t ht=>if_neg (by simpa using ht)⟩ ?_⟩;have key:∀es:List Tmp,(∀d∈es,d∈ds)->C4 l (fun _=> []) (EF Φs) u w' es->C4 l (fun _=> []) (EF Φs) (fun t=>if t∈ds then u t else ρ t) w' es:=by
  intro es
  induction es with
  | nil=>exact fun _ _=>trivial
  | cons d es ih=>
   intro hm h;refine⟨?_,ih (fun x hx=>hm x (by simp[hx])) h.2⟩;have:=h.1;simp only[if_pos (hm d (by simp))];exact this
 exact key ds (fun _ h=>h) hf
variable {l : List AbM} {Φ : Nat -> BJ}
theorem AR{C:Nat->Abt->Prop}{R:Nat->Abt->Abt->Prop}{k:Nat}{o:AbM}(hg:o.guard=none) 
  (h:∀σ w,C k w->(∀t∈o.looksAt l.toArray,JG l Φ ρ k t (σ t) w)->Yk P (fun v w' =>R k w w' /\Φ k v w') ((execOp (Ab σ) o).run P w)):O4 P l C R Φ ρ k o:=by
 intro σ w hC hl;have:AX l o σ=true:=by unfold AX;rw[hg]
 rw[if_pos this];exact h σ w hC hl
/-! ### A function is entered; it returns -/
structure Begun (args : List Abs) (ρ : Ah) : Prop where
 get:∀t,ρ t=args.getD t undef
def ResF(P:AbN)(ρ:Ah)(w:Abt):ResultVar->Abs->Prop
 | .tmp t,v=>ρ t=v
 | .cell p ty,v=>∃a,ρ p = .pointer (some a)/\(loadVar ty a).run P w = .ok v w
def GI(P:AbN)(ρ:Ah)(w:Abt):List ResultVar->List Abs->Prop
 | [],[]=>True
 | r :: rs,v :: vs=>ResF P ρ w r v/\GI P ρ w rs vs
 | _,_=>False
def resOf(tmps:Array Abs):ResultVar->Sem Abs
 | .tmp t=>pure (tmps.getD t undef)
 | .cell a t=>do loadVar t (<-asAddr (tmps.getD a undef))
theorem HU{ρ:Ah}{w:Abt}{tmps:Array Abs}(ht:∀t,tmps.getD t undef=ρ t):∀(rs:List ResultVar) (vs:List Abs),GI P ρ w rs vs->(rs.mapM (resOf tmps)).run P w=AfI vs w
 | [],[],_=>by simp[AbE]
 | [],_ :: _,h=>h.elim
 | _ :: _,[],h=>h.elim
 | r :: rs,v :: vs,h=>by
  have ih:=HU ht rs vs h.2;have h1:(resOf tmps r).run P w = .ok v w:=by
   have h1:=h.1;cases r with
   | tmp t=>
    simp only[ResF]at h1;simp only[resOf,ht,h1,AbE]
   | cell p ty=>
    obtain⟨a,ha,hl⟩:=h1;simp only[resOf,ht,ha,asAddr,AbC,AbE,AbB,hl]
  rw[List.mapM_cons,AbC,h1];simp only[AbB,AbC,ih,AbE]
def HV:List Abs->Abs
 | [v]=>v
 | vs=> .tuple vs.toArray
theorem G8{fn:AdT}{rs:List ResultVar}(hrs:fn.results=rs.toArray){tmps:Array Abs}(ht:∀t,tmps.getD t undef=ρ t){vs:List Abs}(h:GI P ρ w rs vs):
  (results fn tmps).run P w = .ok (HV vs) w:=by
 have h1:=HU ht rs vs h;have he:results fn tmps=(do let vs <-fn.results.mapM (resOf tmps);pure (if h:vs.size=1 then vs[0]else .tuple vs)):=by
  unfold results
  congr 1
 rw[he,hrs,List.mapM_toArray,AbC];have hm:((List.toArray <$> rs.mapM (resOf tmps)):Sem (Array Abs)).run P w = .ok vs.toArray w:=by
  show((rs.mapM (resOf tmps)).bind (fun x=>Sem.pure x.toArray)).run P w=_;rw[show(rs.mapM (resOf tmps)).bind (fun x=>Sem.pure x.toArray)=(do let x <-rs.mapM (resOf tmps);pure x.toArray)from rfl,AbC,h1];rfl
 rw[hm];simp only[AbB,AbE]
 match vs with
 | []=>rfl
 | [v]=>rfl
 | _ :: _ :: _=>simp[HV]
theorem ResF.row{p:Tmp}{ty:Abz}{g:Nat}{t:Abz}{cs:Array Abs}{fr:Nat × Nat}{d:TypeDesc}(hp:ρ p = .pointer (some ⟨g,0,none⟩))(hg:w.heap[g]? =some (.cells cs t fr)) 
  (hu:P.underlying ty=some d) (hd:(match d with | .struct _ | .array _ _=>true | _=>false)=true) (hi:(P.info? ty).map (·.size)=some cs.size):ResF P ρ w (.cell p ty) (.agg cs):=
 ⟨_,hp,run_loadVar_row w g t ty cs fr d hg hu hd hi⟩
abbrev AaR:=@ResF.row
end
variable {P : AbN}
abbrev NI(n:Nat):Abs:= .int .i64 (n:Int)
abbrev B8(x:UInt8):Abs:= .int .u8 (x.toNat:Int)

theorem Vl{op:BinOp}{t ty2:Abz}{x y:AbD}{d:Option Tmp}{ty:Abz}{pos:String}{af:Array Ack}{gd:Option (Nat × Bool)}{ρ:AbD->Abs}{xv yv v:Abs}{w:Abt} 
  (hx:ρ x=xv) (hy:ρ y=yv) (hne:(op matches .eql | .neq)=false) (hr:Aca op t xv yv=pure v):(execOp ρ ⟨d, .binOp op t x y ty2,ty,pos,af,gd⟩).run P w = .ok (.value v) w:=by
 have hg:eqGuard op t x y xv yv=pure ():=by
  unfold eqGuard;cases op <;> first | rfl | cases hne
 unfold execOp;simp only[hx,hy,hg,hr,AbC,AbE,AbB]
theorem X6{K:Abs->Abt->Prop}{op:BinOp}{t ty2:Abz}{x y:AbD}{d:Option Tmp}{ty:Abz}{pos:String}{af:Array Ack}{gd:Option (Nat × Bool)}{ρ:Tmp->Abs}{xv yv v:Abs}{w:Abt} 
  (hx:Ab ρ x=xv) (hy:Ab ρ y=yv) (hne:(op matches .eql | .neq)=false) (hr:Aca op t xv yv=pure v) (hk:K v w):Yk P K ((execOp (Ab ρ) ⟨d, .binOp op t x y ty2,ty,pos,af,gd⟩).run P w):=
 AaL (Vl hx hy hne hr) hk
theorem ZR{K:Abs->Abt->Prop}{t e:Abz}(ht:P.underlying t=some (.slice e))(he:∀w' :Abt,(sizeOf e).run P w' = .ok 1 w'){x y:AbD}{d:Option Tmp}{ty:Abz}{pos:String}{af:Array Ack}{gd:Option (Nat × Bool)}{ρ:Tmp->Abs}{w:Abt}{b o i n c:Nat}{k:AcG} 
  (hx:Ab ρ x = .slice (some ⟨b,o,none⟩) n c) (hy:Ab ρ y = .int k (i:Int)) (hi:i<n) (hk:K (.pointer (some ⟨b,o+i,none⟩)) w):Yk P K ((execOp (Ab ρ) ⟨d, .indexAddr t x y,ty,pos,af,gd⟩).run P w):=by
 refine AaL (v:= .pointer (some ⟨b,o+i,none⟩)) (w' :=w) ?_ hk;have hE:P.elem t=e:=by simp[Program.elem,ht]
 have hr:=run_indexAt_slice (P:=P) w t ⟨b,o,none⟩ n c k (i:Int) (by rw[hE];exact ht);rw[if_pos (by omega),hE,he]at hr;unfold execOp;simp only[hx,hy,AbC,hr,AbB,AbE];simp[AcT]
theorem QH{ty:Abz}{desc:TypeDesc}(hu:P.underlying ty=some desc)(hd:(match desc with | .struct _ | .array _ _=>false | _=>true)=true){x:AbD}{d:Option Tmp}{tt:Abz}{pos:String}{af:Array Ack}{gd:Option (Nat × Bool)}{ρ:AbD->Abs}{w:Abt}{a:Addr}{v:Abs} 
  (hx:ρ x = .pointer (some a)) (hc:w.cell? a=some v):(execOp ρ ⟨d, .load ty x,tt,pos,af,gd⟩).run P w = .ok (.value v) w:=by
 have hl:(Agu ty (.pointer (some a))).run P w = .ok v w:=by
  have hagg:(isAgg ty).run P w = .ok false w:=by
   unfold isAgg;rw[AbC,run_underlying hu w];cases desc <;> simp_all
  simp[Agu,AdW,loadVar,hagg,hc]
 unfold execOp;simp only[hx,AbC,hl,AbB,AbE]
theorem XW{K:Abs->Abt->Prop}{ty:Abz}{desc:TypeDesc}(hu:P.underlying ty=some desc)(hd:(match desc with | .struct _ | .array _ _=>false | _=>true)=true){x:AbD}{d:Option Tmp}{tt:Abz}{pos:String}{af:Array Ack}{gd:Option (Nat × Bool)}{ρ:Tmp->Abs}{w:Abt}{a:Addr}{v:Abs} 
  (hx:Ab ρ x = .pointer (some a)) (hc:w.cell? a=some v) (hk:K v w):Yk P K ((execOp (Ab ρ) ⟨d, .load ty x,tt,pos,af,gd⟩).run P w):=
 AaL (QH hu hd hx hc) hk
section
variable {P : AbN} {K : Abs -> Abt -> Prop} {ρ : Ah} {w : Abt} {d : Option Tmp} {ty : Abz} {pos : String} {af : Array Ack} {gd : Option (Nat × Bool)}
theorem Yk.move{x:AbD}{v:Abs}(hx:Ab ρ x=v)(hk:K v w):Yk P K ((execOp (Ab ρ) ⟨d, .move x,ty,pos,af,gd⟩).run P w):=by
 subst hx;exact hk
abbrev AaM:=@Yk.move
theorem Yk.assign{x:AbD}{v:Abs}(hx:Ab ρ x=v)(hk:K v w):Yk P K ((execOp (Ab ρ) ⟨d, .assign x,ty,pos,af,gd⟩).run P w):=by
 subst hx;exact hk
abbrev AaY:=@Yk.assign
theorem Yl{c x y:AbD}{v:Abs}(hc:Ab ρ c = .bool true)(hx:Ab ρ x=v)(hk:K v w):Yk P K ((execOp (Ab ρ) ⟨d, .pick c x y,ty,pos,af,gd⟩).run P w):=by
 subst hx;unfold execOp;simp only[hc,asBool,AbC,AbE,AbB,if_true];exact hk
theorem Yy{c x y:AbD}{v:Abs}(hc:Ab ρ c = .bool false)(hx:Ab ρ y=v)(hk:K v w):Yk P K ((execOp (Ab ρ) ⟨d, .pick c x y,ty,pos,af,gd⟩).run P w):=by
 subst hx;unfold execOp;simp only[hc,asBool,AbC,AbE,AbB,Bool.false_eq_true,if_false];exact hk
theorem Yk.nilCheck{x:AbD}{a:Addr}(hx:Ab ρ x = .pointer (some a))(hk:K (.pointer (some a)) w):Yk P K ((execOp (Ab ρ) ⟨d, .nilCheck x,ty,pos,af,gd⟩).run P w):=by
 unfold execOp;simp only[hx];exact hk
abbrev AaG:=@Yk.nilCheck
def AG(P:AbN)(s:Abz)(f off:Nat):Prop:=∀(b o:Nat) (w:Abt),(Instr.fieldAt s (.pointer (some ⟨b,o,none⟩)) f).run P w = .ok (.pointer (some ⟨b,o+off,none⟩)) w
theorem Yk.fieldAt{s:Abz}{f off b o:Nat}(hf:AG P s f off){x:AbD}(hx:Ab ρ x = .pointer (some ⟨b,o,none⟩))(hk:K (.pointer (some ⟨b,o+off,none⟩)) w):Yk P K ((execOp (Ab ρ) ⟨d, .fieldAddr s x f,ty,pos,af,gd⟩).run P w):=by
 unfold execOp;simp only[hx,AbC,hf b o w,AbB,AbE];exact hk
abbrev AaE:=@Yk.fieldAt
theorem Yk.alloc{e:Abz}{cs:Array Abs}(hz:∀(σ:AbD->Abs) (w:Abt),(execOp σ ⟨d, .alloc e,ty,pos,af,gd⟩).run P w = .ok (.value (.pointer (some ⟨w.heap.size,0,none⟩))) (w.alloc (.cells cs e))) 
  (hk:∀n w',w.heap.size=n->w'.heap[n]? =some (.cells cs e (0,0))->Ext w w' ->w'.heap.size=n+1->K (.pointer (some ⟨n,0,none⟩)) w'):Yk P K ((execOp (Ab ρ) ⟨d, .alloc e,ty,pos,af,gd⟩).run P w):=by
 rw[hz];exact hk _ _ rfl (heap_alloc_new w _) ((Aco _ _).alloc (Abx _) _) (by simp)
abbrev AaN:=@Yk.alloc
theorem Yk.box{e:Abz}{x:AbD}{cs:Array Abs}(hx:Ab ρ x = .agg cs) 
  (hk:∀n w',w.heap.size=n->w'.heap[n]? =some (.cells cs e (0,0))->Ext w w' ->w'.heap.size=n+1->K (.pointer (some ⟨n,0,none⟩)) w'):Yk P K ((execOp (Ab ρ) ⟨d, .box e x,ty,pos,af,gd⟩).run P w):=by
 have hr:(execOp (Ab ρ) ⟨d, .box e x,ty,pos,af,gd⟩).run P w = .ok (.value (.pointer (some ⟨w.heap.size,0,none⟩))) (w.alloc (.cells cs e)):=by
  show((Instr.box e (Ab ρ x)).run P w).andThen (fun v w=>AfI (Next.value v) w)=_;rw[hx];rfl
 rw[hr];exact hk _ _ rfl (heap_alloc_new w _) ((Aco _ _).alloc (Abx _) _) (by simp)
abbrev AaV:=@Yk.box
theorem Ym{t e:Abz}(ht:P.underlying t=some (.slice e)){x:AbD}{l:AgP}{w0:Abt}(h:RB w0 (Ab ρ x) l)(hk:K (NI l.length) w):Yk P K ((execOp (Ab ρ) ⟨d, .call ⟨.builtin .len,#[x],#[t]⟩,ty,pos,af,gd⟩).run P w):=by
 obtain⟨h1,ao,cap,hv,h2,h3,h4,h5⟩:=h;refine AaL (v:=NI l.length) (w' :=w) ?_ hk;unfold execOp;simp[resolve,invoke,builtin,Agv,hv,run_underlying ht,goInt]
theorem Zc{t e:Abz}(ht:P.underlying t=some (.slice e)){x:AbD}{ao:Option Addr}{n c:Nat}(hx:Ab ρ x = .slice ao n c)(hk:K (NI n) w):Yk P K ((execOp (Ab ρ) ⟨d, .call ⟨.builtin .len,#[x],#[t]⟩,ty,pos,af,gd⟩).run P w):=by
 refine AaL (v:=NI n) (w' :=w) ?_ hk;unfold execOp;simp[resolve,invoke,builtin,Agv,hx,run_underlying ht,goInt]
theorem Aab{t:Abz}(ht:P.underlying t=some .string){x:AbD}{s:ByteArray}(hx:Ab ρ x = .string s)(hk:K (NI s.size) w):Yk P K ((execOp (Ab ρ) ⟨d, .call ⟨.builtin .len,#[x],#[t]⟩,ty,pos,af,gd⟩).run P w):=by
 refine AaL (v:=NI s.size) (w' :=w) ?_ hk;unfold execOp;simp[resolve,invoke,builtin,Agv,hx,run_underlying ht,goInt]
def PCell(v:Abs):BJ:=fun x w=>∃a,x = .pointer (some a)/\w.cell? a=some v
theorem Zh(v:Abs):Stab Ext (PCell v):=fun _ _ _ ⟨a,hx,hc⟩ h=>⟨a,hx,by rw[Below.cell h (AcL _ a hc)];exact hc⟩
theorem PCell.keep{v x:Abs}{w w' :Abt}(h:PCell v x w)(k:Ext w w'):PCell v x w' :=Zh v x w w' h k
theorem Y8{t e:Abz}(ht:P.underlying t=some (.slice e))(he:∀w' :Abt,(sizeOf e).run P w' = .ok 1 w'){x y:AbD}{l:AgP}(h:RB w (Ab ρ x) l){k:AcG}{i:Nat}(hy:Ab ρ y = .int k (i:Int))(hi:i<l.length) 
  (hk:∀v,PCell (B8 (l.getD i 0)) v w->K v w):Yk P K ((execOp (Ab ρ) ⟨d, .indexAddr t x y,ty,pos,af,gd⟩).run P w):=by
 obtain⟨b,off,cap,hv,h1,h2,h3,h4⟩:=h.open_ (by omega);exact ZR ht he hv hy hi (hk _ ⟨_,rfl,h4 i hi⟩)
theorem YB{t:Abz}{desc:TypeDesc}(hu:P.underlying t=some desc)(hd:(match desc with | .struct _ | .array _ _=>false | _=>true)=true){x:AbD}{v:Abs}(hx:PCell v (Ab ρ x) w)(hk:K v w):Yk P K ((execOp (Ab ρ) ⟨d, .load t x,ty,pos,af,gd⟩).run P w):=by
 obtain⟨a,ha,hc⟩:=hx;exact XW hu hd ha hc hk
theorem XX{op:BinOp}{t ty2:Abz}{x y:AbD}{k:AcG}{a b:Int}{v:Abs}(hx:Ab ρ x = .int k a)(hy:Ab ρ y = .int k b)(hr:Aca op t (.int k a) (.int k b)=pure v)(hk:K v w):Yk P K ((execOp (Ab ρ) ⟨d, .binOp op t x y ty2,ty,pos,af,gd⟩).run P w):=by
 have hg:eqGuard op t x y (.int k a) (.int k b)=pure ():=by
  unfold eqGuard;cases op <;> rfl
 refine AaL (v:=v) (w' :=w) ?_ hk;unfold execOp;simp only[hx,hy,hg,hr,AbC,AbE,AbB]
theorem Yf{t:Abz}{x:AbD}{b:Bool}(hx:Ab ρ x = .bool b)(hk:K (.bool (!b)) w):Yk P K ((execOp (Ab ρ) ⟨d, .unOp .not t x,ty,pos,af,gd⟩).run P w):=by
 refine AaL (v:= .bool (!b)) (w' :=w) ?_ hk;unfold execOp;simp[hx,Op.unary]
theorem Yk.run{o:AbM}{v:Abs}(hr:(execOp (Ab ρ) o).run P w = .ok (.value v) w)(hk:K v w):Yk P K ((execOp (Ab ρ) o).run P w):=by rw[hr];exact hk
abbrev Aa1:=@Yk.run
theorem XV{src dst:Abz}{ks kd:AcG}(hs:P.underlying src=some (.int ks))(hd:P.underlying dst=some (.int kd))(a:Int)(w:Abt):(convert src dst (.int ks a)).run P w = .ok (.int kd (kd.wrap a)) w:=by
 simp only[convert,AbC,run_underlying hs,run_underlying hd,AbB,Conv.intToInt,AbE]
theorem YL{src dst:Abz}{ks kd:AcG}(hs:P.underlying src=some (.int ks))(hd:P.underlying dst=some (.int kd)){x:AbD}{a b:Int}(hx:Ab ρ x = .int ks a)(hb:kd.wrap a=b)(hk:K (.int kd b) w):Yk P K ((execOp (Ab ρ) ⟨d, .convert src dst x,ty,pos,af,gd⟩).run P w):=by
 refine AaL (v:= .int kd b) (w' :=w) ?_ hk;have:=Go.Proofs.YtbbbblinjomajaaGreatDoor.XV (P:=P) hs hd a w;unfold execOp;simp only[hx,AbC,this,AbB,AbE,hb]
theorem YH(s x:AbD){t tx e e' :Abz}(base:Nat)(z:Abs)(ht:P.underlying t=some (.slice e))(hi:(P.info? e).map (fun i=>(i.zero,i.size,i.bytes))=some (some z,1,1))(hzs:z.cells.size=1)(hu:P.underlying tx=some (.slice e')) 
  (l m:AgP) (hown:w.ownsRow base e 1 (Ab ρ s) l.length (Abv l)) (hsrc:RB w (Ab ρ x) m) (hb:l.length+m.length<=140737488355328) (hbase:base<=w.heap.size)
  (h:∀v' w',w'.ownsRow base e 1 v' (l++m).length (Abv (l++m))->Grew w w' (Ab ρ s) v' ->K v' w'):Yk P K ((execOp (Ab ρ) ⟨d, .call ⟨.builtin .append,#[s,x],#[t,tx]⟩,ty,pos,af,gd⟩).run P w):=
 Yk.append s x base e z 1 1 ht hi hzs l.length (Abv l) hown m.length (Abv m) (hsrc.src hu) (by unfold maxLen;omega) (by omega) hbase fun v' w' ho g=>h v' w' (by rw[Aby,Af7];exact ho) g
theorem Mt(w:Abt)(e:Abz)(l:AgP)(hl:l.length<=9223372036854775807):NewB e w (w.alloc (.cells (Abv l).toArray e)) (.slice (some ⟨w.heap.size,0,none⟩) l.length l.length) l:=
 ⟨⟨by rw[AbH];simp, .inr ⟨w.heap.size,l.length,(Abv l).toArray,rfl,Abx _,heap_alloc_new w _,Abx _,hl,by simp[AbH],by rw[show l.length*1=(Abv l).length by rw[AbH];simp];exact List.take_length⟩⟩,Agk _ _ none⟩
theorem Y1{f:Ade}(hp:Plain P f){args:Array AbD}{at_:Array Abz}(vs:List Abs)(hv:args.toList.map (Ab ρ)=vs) 
  (h:Calls P f vs.toArray w fun e w' =>∃v,e = .returned v/\K v w'):Yk P K ((execOp (Ab ρ) ⟨d, .call ⟨.value (.func f),args,at_⟩,ty,pos,af,gd⟩).run P w):=by
 subst hv;have:=Yk.call (P:=P) (K:=K) hp (ρ:=ρ) (args:=args.toList) (at_:=at_) (dst:=d) (ty:=ty) (pos:=pos) (af:=af) (gd:=gd) (w:=w) h
 simpa using this
theorem YT{f:Ade}(hp:Plain P f){at_:Array Abz} 
  (h:Calls P f #[] w fun e w' =>∃v,e = .returned v/\K v w'):Yk P K ((execOp (Ab ρ) ⟨d, .call ⟨.value (.func f),#[],at_⟩,ty,pos,af,gd⟩).run P w):=
 Y1 hp [] (by simp) h
theorem X0{f:Ade}(hp:Plain P f){x0:AbD}{a:Abs}{at_:Array Abz}(h0:Ab ρ x0=a) 
  (h:Calls P f #[a] w fun e w' =>∃v,e = .returned v/\K v w'):Yk P K ((execOp (Ab ρ) ⟨d, .call ⟨.value (.func f),#[x0],at_⟩,ty,pos,af,gd⟩).run P w):=
 Y1 hp [a] (by simp[h0]) h
theorem X1{f:Ade}(hp:Plain P f){x0 x1:AbD}{a b:Abs}{at_:Array Abz}(h0:Ab ρ x0=a)(h1:Ab ρ x1=b) 
  (h:Calls P f #[a,b] w fun e w' =>∃v,e = .returned v/\K v w'):Yk P K ((execOp (Ab ρ) ⟨d, .call ⟨.value (.func f),#[x0,x1],at_⟩,ty,pos,af,gd⟩).run P w):=
 Y1 hp [a,b] (by simp[h0,h1]) h
theorem X9{f:Ade}(hp:Plain P f){x0 x1 x2:AbD}{a b c:Abs}{at_:Array Abz}(h0:Ab ρ x0=a)(h1:Ab ρ x1=b)(h2:Ab ρ x2=c) 
  (h:Calls P f #[a,b,c] w fun e w' =>∃v,e = .returned v/\K v w'):Yk P K ((execOp (Ab ρ) ⟨d, .call ⟨.value (.func f),#[x0,x1,x2],at_⟩,ty,pos,af,gd⟩).run P w):=
 Y1 hp [a,b,c] (by simp[h0,h1,h2]) h
theorem Aac{src dst e:Abz}(hs:P.underlying src=some (.slice e))(he:P.underlying e=some (.int .u8))(hd:P.underlying dst=some .string){x:AbD}{l:AgP} 
  (h:RB w (Ab ρ x) l) (hk:K (.string ⟨l.toArray⟩) w):Yk P K ((execOp (Ab ρ) ⟨d, .convert src dst x,ty,pos,af,gd⟩).run P w):=by
 have hr:=Mq (P:=P) hs he hd h;refine AaL (v:= .string ⟨l.toArray⟩) (w' :=w) ?_ hk;unfold execOp;simp only[AbC,hr,AbB,AbE]
theorem Yn{v x:Abs}{l:AgP}(h:RB w v l)(e:x=v):RB w x l:=by rw[e];exact h
theorem YP{v x y:Abs}(h:PCell v x w)(e:y=x):PCell v y w:=by rw[e];exact h
theorem GJ{v x:Abs}{b:Nat}{e:Abz}{z n:Nat}{xs:List Abs}(h:w.ownsRow b e z v n xs)(e' :x=v):w.ownsRow b e z x n xs:=by rw[e'];exact h
theorem oM{Q:Ba}{ops:Array AbM}{n:Nat}{rest:List AbM}{dst:Option Tmp}{x:AbD}{ty:Abz}{pos:String}{af:Array Ack}(hd:(match dst with | some d=>Adh d n | none=>true)=true)(h:BV P ops n Q rest (updO ρ dst (Ab ρ x)) w):BV P ops n Q (⟨dst, .move x,ty,pos,af,none⟩ :: rest) ρ w:=oS hd (AaM rfl h)
theorem oA{Q:Ba}{ops:Array AbM}{n:Nat}{rest:List AbM}{dst:Option Tmp}{x:AbD}{ty:Abz}{pos:String}{af:Array Ack}(hd:(match dst with | some d=>Adh d n | none=>true)=true)(h:BV P ops n Q rest (updO ρ dst (Ab ρ x)) w):BV P ops n Q (⟨dst, .assign x,ty,pos,af,none⟩ :: rest) ρ w:=oS hd (AaY rfl h)
def G9(ρ:Ah):List (Nat × Abs)->Prop
 | []=>True
 | (t,v) :: r=>ρ t=v/\G9 ρ r
theorem EndF.hold{ds:List Tmp}{ρ ρ' :Ah}(h:EndF ds ρ ρ'):∀(l:List (Nat × Abs)) (_:G9 ρ l) (_:(l.all fun p=> !ds.contains p.1)=true),G9 ρ' l
 | [],_,_=>trivial
 | (t,v) :: r,hl,hd=>by
  rw[List.all_cons,AbY]at hd;exact⟨h.at_ hl.1 (by simpa using hd.1),EndF.hold h r hl.2 hd.2⟩
theorem Xv{Q:Ba}{ops:Array AbM}{n:Nat}(l:List (Nat × Abs))(hF:G9 ρ l)(h:∀ρ',G9 ρ' l->Q .normal ρ' w):BV P ops n Q [] ρ w:=oZ (h ρ hF)
theorem Bo{w0 w w' :Abt}{v v' :Abs}{b:Nat}{e:Abz}{z n:Nat}{xs:List Abs}(h:Ext w0 w)(g:Grew w w' v v')(ho:w.ownsRow b e z v n xs)(hb:w0.heap.size<=b):Ext w0 w' :=
 Below.grown h g.by_ h.size (fun k hk=>Abw hb (ho.lt k hk).1)
theorem AU{w w' :Abt}{v v' :Abs}{g:Nat}{o:Obj}(h:w.heap[g]? =some o)(gr:Grew w w' v v')(hne:v.ownBlock≠some g):w'.heap[g]? =some o:=
 (gr.by_.block g (Acg.1 h).1 (fun e=>hne e.symm)).trans h
theorem A9{w:Abt}{v:Abs}{b:Nat}{e:Abz}{z n:Nat}{xs:List Abs}{g:Nat}(ho:w.ownsRow b e z v n xs)(hg:g<b):v.ownBlock≠some g:=fun h=>by have:=(ho.lt g h).1;omega
theorem BX{w:Abt}{v:Abs}{b:Nat}{e:Abz}{z n:Nat}{xs:List Abs}{g:Nat}(ho:w.ownsRow b e z v n xs)(hg:w.heap.size<=g):v.ownBlock≠some g:=fun h=>by have:=(ho.lt g h).2;omega
theorem B6{w w' :Abt}{v v' :Abs}{g:Nat}(gr:Grew w w' v v')(h:v.ownBlock≠some g)(hg:g<w.heap.size):v'.ownBlock≠some g:=fun h' =>by
 rcases gr.fresh g h' with h1 | h1
 ·exact h h1
 ·omega
theorem Er{w w' :Abt}{v:Abs}{b:Nat}{e:Abz}{z n:Nat}{xs:List Abs}{g:Nat}(ho:w.ownsRow b e z v n xs)(h:w.grownBy w' (some g))(hne:v.ownBlock≠some g):w'.ownsRow b e z v n xs:=
 ho.kept h (.inr hne)
theorem ZS{t e:Abz}(hr:∀(z:Int) (w:Abt),(Ab1 t 1 #[(0, .int .u8 z)]).run P w = .ok (.slice (some ⟨w.heap.size,0,none⟩) 1 1) (w.alloc (.cells #[.int .u8 z] e))){x:AbD}{b:UInt8}(hx:Ab ρ x=B8 b) 
  (hk:∀v w',NewB e w w' v [b]->K v w'):Yk P K ((execOp (Ab ρ) ⟨d, .buildSlice t 1 #[(0,x)],ty,pos,af,gd⟩).run P w):=by
 have hr' :(execOp (Ab ρ) ⟨d, .buildSlice t 1 #[(0,x)],ty,pos,af,gd⟩).run P w = .ok (.value (.slice (some ⟨w.heap.size,0,none⟩) 1 1)) (w.alloc (.cells #[B8 b] e)):=by
  have:=hr (b.toNat:Int) w;unfold execOp;simp only[AbI,AbL,AbP,hx,AbC];rw[this];rfl
 rw[hr'];exact hk _ _ (Mt w e [b] (by simp))
theorem Aax{t e:Abz}(hr:∀(w:Abt),(Ab1 t 0 #[]).run P w = .ok (.slice (some ⟨w.heap.size,0,none⟩) 0 0) (w.alloc (.cells #[] e))) 
  (hk:∀v w',NewB e w w' v []->K v w'):Yk P K ((execOp (Ab ρ) ⟨d, .buildSlice t 0 #[],ty,pos,af,gd⟩).run P w):=by
 have hr' :(execOp (Ab ρ) ⟨d, .buildSlice t 0 #[],ty,pos,af,gd⟩).run P w = .ok (.value (.slice (some ⟨w.heap.size,0,none⟩) 0 0)) (w.alloc (.cells #[] e)):=by
  unfold execOp;simp only[AbI,AbP,AbC,hr,AbB,AbE]
 rw[hr'];exact hk _ _ (Mt w e [] (by decide))
theorem Vm{l:AgP}{i:Nat}(hi:i<l.length):(Abv l)[i]? =some (B8 (l.getD i 0)):=by simp[Abv,hi]
theorem Ac{b:Nat}{l:List Abs}{t:Abz}{fr:Nat × Nat}(h:w.heap[b]? =some (.cells l.toArray t fr)){i:Nat}{v:Abs}(hi:l[i]? =some v):w.cell? ⟨b,i,none⟩=some v:=by
 simp[World.cell?,h,hi]
theorem XZ{t' :Abz}{x y:AbD}{g i:Nat}{cs:List Abs}{t:Abz}{v:Abs}(hx:Ab ρ x = .pointer (some ⟨g,i,none⟩))(hy:Ab ρ y=v)(hg:w.heap[g]? =some (.cells cs.toArray t (0,0)))(hi:i<cs.length)(hinfo:(P.info? t').map (·.size)=some 1)(hv:v.cells = #[v])(h1:v.oneCell' =true) 
  (hk:∀w',w'.heap[g]? =some (.cells (cs.set i v).toArray t (0,0))->w.grownBy w' (some g)->w'.heap.size=w.heap.size->K undef w'):Yk P K ((execOp (Ab ρ) ⟨d, .store t' x y,ty,pos,af,gd⟩).run P w):=by
 have hst:=run_storeCells_at P g i t [v] 0 cs.toArray w hg (by simp;omega) (by simpa using h1);have e:(cs.toArray.toList.take (i+0)++ [v]++cs.toArray.toList.drop (i+0+ [v].length))=cs.set i v:=by
  rw[List.set_eq_take_append_cons_drop,if_pos hi];simp
 rw[e]at hst;have hr:(Aer t' (.pointer (some ⟨g,i,none⟩)) v).run P w = .ok () (w.setRow g (cs.set i v).toArray):=by
  cases hq:P.info? t' with
  | none=>simp[hq]at hinfo
  | some q=>
   have hs:q.size=1:=by simp[hq]at hinfo;omega
   simp[Aer,AdW,storeVar,sizeOf,typeInfo,hq,hv,hs,hst]
 unfold execOp;simp only[hx,hy,hr,AbC,AbB,AbE];exact hk _ (setRow_heap w g cs.toArray _ t (0,0) hg) ⟨rfl,rfl,rfl,by simp,fun k _ hk=>setRow_other w g k _ (fun e=>hk (by rw[e]))⟩ (by simp)
theorem Yb{t' :Abz}{x y:AbD}{g:Nat}{cells cur:Array Abs}{t:Abz}(hx:Ab ρ x = .pointer (some ⟨g,0,none⟩))(hy:Ab ρ y = .agg cells)(hg:w.heap[g]? =some (.cells cur t (0,0)))(hs:cells.size=cur.size)(hi:(P.info? t').map (·.size)=some cells.size)(h1:∀v∈cells.toList,v.oneCell' =true) 
  (hk:∀w',w'.heap[g]? =some (.cells cells t (0,0))->w.grownBy w' (some g)->w'.heap.size=w.heap.size->K undef w'):Yk P K ((execOp (Ab ρ) ⟨d, .store t' x y,ty,pos,af,gd⟩).run P w):=by
 have hr:=Gi (P:=P) w g t' cells cur t hg hs hi h1;unfold execOp;simp only[hx,hy,hr,AbC,AbB,AbE];exact hk _ (setRow_heap w g cur cells t (0,0) hg) ⟨rfl,rfl,rfl,by simp,fun k _ hk=>setRow_other w g k _ (fun e=>hk (by rw[e]))⟩ (by simp)
theorem Yu{t' :Abz}{x:AbD}{g:Nat}{cs:Array Abs}{t:Abz}{fr:Nat × Nat}{de:TypeDesc}(hx:Ab ρ x = .pointer (some ⟨g,0,none⟩))(hg:w.heap[g]? =some (.cells cs t fr))(hu:P.underlying t' =some de)(hd:(match de with | .struct _ | .array _ _=>true | _=>false)=true)(hi:(P.info? t').map (·.size)=some cs.size) 
  (hk:K (.agg cs) w):Yk P K ((execOp (Ab ρ) ⟨d, .load t' x,ty,pos,af,gd⟩).run P w):=by
 have hr:=run_loadVar_row w g t t' cs fr de hg hu hd hi;refine AaL (v:= .agg cs) (w' :=w) ?_ hk;unfold execOp;simp[hx,Agu,AdW,hr]
theorem Dz{b:Nat}{e:Abz}{v:Abs}{l l' :AgP}(h:w.ownsRow b e 1 v l.length (Abv l))(e' :l=l'):w.ownsRow b e 1 v l'.length (Abv l'):=by rw[<-e'];exact h
theorem Ay{g:Nat}{l l' :List Abs}{t:Abz}{fr:Nat × Nat}(h:w.heap[g]? =some (.cells l.toArray t fr))(e:l=l'):w.heap[g]? =some (.cells l'.toArray t fr):=by rw[<-e];exact h
theorem ZZ{t e:Abz}(ht:P.underlying t=some (.slice e))(he:∀w' :Abt,(sizeOf e).run P w' = .ok 1 w'){x lo:AbD}{v:Abs}{xs:AgP}(hx:Ab ρ x=v)(h:RB w v xs){k:AcG}{l:Nat}(hlo:Ab ρ lo = .int k (l:Int))(hl:l<=xs.length) 
  (hk:∀v',RB w v' (xs.drop l)->v'.ownBlock=v.ownBlock->K v' w):Yk P K ((execOp (Ab ρ) ⟨d, .slice t x (some lo) none none,ty,pos,af,gd⟩).run P w):=by
 obtain⟨ao,c,⟨hrun,hb⟩,hR⟩:=Cl ht he h (some (.int k l)) none l xs.length hl (Abx _) (.inr ⟨k,rfl⟩) (.inl ⟨rfl,rfl⟩);have hR' :=Y5 (Abx _) hR;rw[List.take_of_length_le (by rw[AbS];exact Abx _)]at hR';refine AaL (v:= .slice ao (xs.length-l) c) (w' :=w) ?_ (hk _ hR' hb);unfold execOp;simp only[hx,hlo,AcO,Adl,hrun,AbC,AbE,AbB]
theorem Z0{t e:Abz}(ht:P.underlying t=some (.slice e))(he:∀w' :Abt,(sizeOf e).run P w' = .ok 1 w'){x hi:AbD}{v:Abs}{xs:AgP}(hx:Ab ρ x=v)(h:RB w v xs){k:AcG}{n:Nat}(hhi:Ab ρ hi = .int k (n:Int))(hn:n<=xs.length) 
  (hk:∀v',RB w v' (xs.take n)->v'.ownBlock=v.ownBlock->K v' w):Yk P K ((execOp (Ab ρ) ⟨d, .slice t x none (some hi) none,ty,pos,af,gd⟩).run P w):=by
 obtain⟨ao,c,⟨hrun,hb⟩,hR⟩:=Cl ht he h none (some (.int k n)) 0 n (Nat.zero_le _) hn (.inl ⟨rfl,rfl⟩) (.inr ⟨k,rfl⟩);have hR' :=Y5 hn hR;rw[List.drop_zero,Nat.sub_zero]at hR';refine AaL (v:= .slice ao (n-0) c) (w' :=w) ?_ (hk _ hR' hb);unfold execOp;simp only[hx,hhi,AcO,Adl,hrun,AbC,AbE,AbB]
theorem ZJ{t' :Abz}{x:AbD}{g o:Nat}{cs:List Abs}{de:TypeDesc}(hx:Ab ρ x = .pointer (some ⟨g,o,none⟩))(hc:w.rangeAt g o cs)(hu:P.underlying t' =some de)(hd:de.isRow=true)(hi:(P.info? t').map (·.size)=some cs.length) 
  (hk:K (.agg cs.toArray) w):Yk P K ((execOp (Ab ρ) ⟨d, .load t' x,ty,pos,af,gd⟩).run P w):=by
 refine AaL (v:= .agg cs.toArray) (w' :=w) ?_ hk;simp only[execOp,hx,AbC,run_loadAt_mid w g o t' cs de hc hu hd hi,AbB,AbE]
section
variable {Q : Ba} {K : Ah -> Abt -> Prop}
theorem tN(h:K ρ w):D3 K Q .normal ρ w:=h
theorem JH{i:Nat}(h:Q (.exit i) ρ w):D3 K Q (.exit i) ρ w:=h
theorem HW(h:Q .ret ρ w):D3 K Q .ret ρ w:=h
theorem bN{i:Nat}(h:Q .normal ρ w):Cs i Q .normal ρ w:=h
theorem HX{i:Nat}(h:Q .ret ρ w):Cs i Q .ret ρ w:=h
theorem HY{i:Nat}(h:Q .normal ρ w):Cs i Q (.exit i) ρ w:=by
 simp only[Cs,if_true];exact h
theorem L6{i j:Nat}(hij:(Ae4 j i)=false)(h:Q (.exit j) ρ w):Cs i Q (.exit j) ρ w:=by
 simp only[Cs];rw[if_neg (fun e=>by subst e;simp at hij)];exact h
end
theorem Df{t:Abz}(h:(match P.underlying t with | some (.struct _)=>true | _=>false)=true):∃fs,P.underlying t=some (.struct fs):=by
 split at h
 ·exact⟨_,‹_›⟩
 ·cases h
theorem O5{t e:Abz}(ht:P.underlying t=some (.pointer e))(a:Option Addr)(w:Abt):(Ad8 t (.pointer a) (.pointer none)).run P w = .ok a.isNone w:=by
 unfold Ad8;rw[show AeJ=(AeJ-1)+1 from rfl];cases a <;> simp[Adp,run_underlying ht,AbC,AbE]
theorem Yr{t e ty2:Abz}(ht:P.underlying t=some (.pointer e)){x:AbD}{a:Option Addr}(hx:Ab ρ x = .pointer a)(hk:K (.bool a.isNone) w):Yk P K ((execOp (Ab ρ) ⟨d, .binOp .eql t x (.const (.pointer none)) ty2,ty,pos,af,gd⟩).run P w):=by
 have hy:Ab ρ (.const (.pointer none)) = .pointer none:=rfl;refine AaL (v:= .bool a.isNone) (w' :=w) ?_ hk;have hr:=O5 ht a w;unfold execOp;simp only[hx,hy];cases a <;> simp[eqGuard,Aca,hr]
theorem Ad{w0 w1 w2:Abt}{g:Nat}(h0:Ext w0 w1)(h:w1.grownBy w2 (some g))(hg:w0.heap.size<=g):Ext w0 w2:=
 Below.grown h0 h h0.size (fun k hk=>by cases hk;exact hg)
end
/-! ### Numbers that are not below 0 -/
section
theorem Bg(t:Abz)(k:AcG)(a b:Nat):Aca .lss t (.int k (a:Int)) (.int k (b:Int))=pure (.bool (decide (a<b))):=by
 simp[Aca,Aeh]
theorem EG(t:Abz)(k:AcG)(a b:Nat):Aca .leq t (.int k (a:Int)) (.int k (b:Int))=pure (.bool (decide (a<=b))):=by
 simp[Aca,Aeh]
theorem DK(t:Abz)(k:AcG)(a b:Nat):Aca .gtr t (.int k (a:Int)) (.int k (b:Int))=pure (.bool (decide (b<a))):=by
 simp[Aca,Aeh]
theorem E6(t:Abz)(k:AcG)(a b:Nat):Aca .geq t (.int k (a:Int)) (.int k (b:Int))=pure (.bool (decide (b<=a))):=by
 simp[Aca,Aeh]
theorem AH(t:Abz)(k:AcG)(a b:Nat):Aca .eql t (.int k (a:Int)) (.int k (b:Int))=pure (.bool (decide (a=b))):=by
 have:((a:Int)==(b:Int))=decide (a=b):=by rw[AdK];simp;omega
 simp[Aca,Aeh,this]
theorem Bb(t:Abz)(k:AcG)(a b:Nat):Aca .neq t (.int k (a:Int)) (.int k (b:Int))=pure (.bool (decide (a≠b))):=by
 have:((a:Int) != (b:Int))=decide (a≠b):=by rw[AdK];simp;omega
 simp[Aca,Aeh,this]
theorem U0(t:Abz)(k:AcG)(a b:Int):Aca .lss t (.int k a) (.int k b)=pure (.bool (decide (a<b))):=by simp[Aca,Aeh]
theorem U1(t:Abz)(k:AcG)(a b:Int):Aca .gtr t (.int k a) (.int k b)=pure (.bool (decide (b<a))):=by simp[Aca,Aeh]
theorem W5(t:Abz)(k:AcG)(a b:Int):Aca .eql t (.int k a) (.int k b)=pure (.bool (decide (a=b))):=by
 have:(a==b)=decide (a=b):=by rw[AdK];simp
 simp[Aca,Aeh,this]
theorem Jj(n:Nat)(h:n<9223372036854775808):IntKind.i64.wrap (n:Int)=(n:Int):=by
 simp only[Agw,Adv,AeC];have:(n:Int)%(2^64:Int)=n:=by omega
 simp only[this];rw[if_neg];simp;omega
theorem AI(t:Abz)(a b:Nat)(h:a+b<9223372036854775808):Aca .add t (.int .i64 (a:Int)) (.int .i64 (b:Int))=pure (.int .i64 ((a+b:Nat):Int)):=by
 unfold Aca;simp only[ne_eq,not_true_eq_false,if_false,Op.intArith];rw[<-Int.natCast_add,Jj _ h]
theorem EX(t:Abz)(a b:Nat)(h:a<9223372036854775808)(hb:b<=a):Aca .sub t (.int .i64 (a:Int)) (.int .i64 (b:Int))=pure (.int .i64 ((a-b:Nat):Int)):=by
 unfold Aca;simp only[ne_eq,not_true_eq_false,if_false,Op.intArith];rw[<-Int.natCast_sub hb,Jj _ (by omega)]
theorem XF(t:Abz)(a:Nat)(j:AcG)(n:Nat)(hn:n<64):Aca .shr t (.int .i64 (a:Int)) (.int j (n:Int))=pure (.int .i64 ((a/2^n:Nat):Int)):=by
 unfold Aca;simp only[Op.shift,Adv];rw[if_neg (by omega),AbZ,Ad6 (by omega)];have:(a:Int).fdiv (2^n)=((a/2^n:Nat):Int):=by
  rw[show(2^n:Int)=((2^n:Nat):Int) by simp,Afe _ (Int.natCast_nonneg _)];rfl
 rw[this]
theorem S7(n:Nat)(h:n<18446744073709551616):IntKind.u64.wrap (n:Int)=(n:Int):=by
 simp only[Agw,Adv,AeC];have:(n:Int)%(2^64:Int)=n:=by omega
 simp only[this];simp
theorem Vn(t:Abz)(a:Nat)(j:AcG)(n:Nat)(hn:n<64):Aca .shr t (.int .u64 (a:Int)) (.int j (n:Int))=pure (.int .u64 ((a/2^n:Nat):Int)):=by
 unfold Aca;simp only[Op.shift,Adv];rw[if_neg (by omega),AbZ,Ad6 (by omega)];have:(a:Int).fdiv (2^n)=((a/2^n:Nat):Int):=by
  rw[show(2^n:Int)=((2^n:Nat):Int) by simp,Afe _ (Int.natCast_nonneg _)];rfl
 rw[this]
theorem Vo(n:Nat)(h:n<256):IntKind.u8.wrap (n:Int)=(n:Int):=by
 simp only[Agw,Adv,AeC];have:(n:Int)%(2^8:Int)=n:=by omega
 simp only[this];simp
theorem Wn(k:AcG)(b:UInt8)(h:∀n:Nat,n<256->k.wrap (n:Int)=(n:Int)):k.wrap (b.toNat:Int)=((b.toNat:Nat):Int):=h _ b.toNat_lt
end
variable {P : AbN}
def CK(l1 l2:AgP):List Nat->Bool
 | []=>true
 | i :: r=>if l1.getD i 0=l2.getD i 0 then CK l1 l2 r else false
theorem H0(l1 l2:AgP):∀is:List Nat,CK l1 l2 is=true↔∀i∈is,l1.getD i 0=l2.getD i 0
 | []=>by simp[CK]
 | i :: r=>by
  have ih:=H0 l1 l2 r;unfold CK;split
  ·rename_i h
   rw[ih];constructor
   ·intro h2 j hj;rcases Ab6.1 hj with rfl | hj
    ·exact h
    ·exact h2 j hj
   ·exact fun h2 j hj=>h2 j (AcD _ hj)
  ·rename_i h
   constructor
   ·intro h2;cases h2
   ·intro h2;exact absurd (h2 i (by simp)) h
theorem byte_eq(a b:UInt8):((a.toNat:Int)==(b.toNat:Int))=decide (a=b):=by
 rw[AdK];simp;constructor
 ·intro h;exact UInt8.toNat_inj.1 (by omega)
 ·intro h;rw[h]
theorem run_eqArray(w:Abt){t e:Abz}{n d:Nat}(ht:P.underlying t=some (.array n e))(he:P.underlying e=some (.int .u8))(hs:(sizeOf e).run P w = .ok 1 w)(l1 l2:AgP)(h1:l1.length=n)(h2:l2.length=n):
  (Adp (d+1+1) t (.agg (Abv l1).toArray) (.agg (Abv l2).toArray)).run P w = .ok (decide (l1=l2)) w:=by
 have hagg:(isAgg e).run P w = .ok false w:=by
  unfold isAgg;rw[AbC,run_underlying he w];rfl
 have hpart:∀(l:AgP) (i:Nat),i<l.length->(part e (Abv l).toArray (i*1)).run P w = .ok (.int .u8 ((l.getD i 0).toNat:Int)) w:=fun l i hi=>by
  unfold part;rw[AbC,hagg];simp[Abv,hi,AbE]
 have key:∀(is:List Nat),(∀i∈is,i<n)->∀(f:Nat->(Option Bool × Unit)->Sem (ForInStep ((Option Bool × Unit)))),
   (∀i r,i<n->(f i r).run P w=if l1.getD i 0=l2.getD i 0 then .ok (.yield (none,())) w else .ok (.done (some false,())) w) ->
   ∀r,r.1=none->(forIn is r f).run P w = .ok (if CK l1 l2 is=true then none else some false,()) w:=by
  intro is
  induction is with
  | nil=>
   intro _ f _ r hr;obtain⟨a,b⟩:=r;simp at hr;subst hr;simp[CK,AbE]
  | cons i is ih=>
   intro hi f hf r hr;simp only[List.forIn_cons,AbC,hf i r (hi i (by simp))];by_cases h:l1.getD i 0=l2.getD i 0
   ·rw[if_pos h];simp only[AbB];rw[ih (fun j hj=>hi j (AcD _ hj)) f hf (none,()) rfl];simp only[CK,if_pos h]
   ·rw[if_neg h];simp only[AbB,AbE,CK,if_neg h];rfl
 obtain⟨D,hD⟩:∃D,D=d+1:=⟨_,rfl⟩;rw[<-hD];simp only[Adp,AbC,run_underlying ht,AbB,hs];rw[Std.Legacy.Range.forIn_eq_forIn_range'];have hsz:([:n]:Std.Legacy.Range).size=n:=by simp[Std.Legacy.Range.size]
 rw[hsz,key (Ae6 0 n 1) (fun i hi=>by simpa using hi)]
 ·have hiff:=H0 l1 l2 (Ae6 0 n 1);have hl:l1=l2↔CK l1 l2 (Ae6 0 n 1)=true:=by
   rw[hiff];constructor
   ·intro h i _;rw[h]
   ·intro h
    apply List.ext_getElem (by omega)
    intro i hi1 hi2;have:=h i (by simp;omega)
    simpa [hi1,hi2] using this
  by_cases h:l1=l2
  ·rw[hl.1 h,decide_eq_true h];simp[AbE]
  ·have h' :CK l1 l2 (Ae6 0 n 1)=false:=by
    cases hb:CK l1 l2 (Ae6 0 n 1)with
    | false=>rfl
    | true=>exact absurd (hl.2 hb) h
   rw[h',decide_eq_false h];simp[AbE]
 ·intro i r hi;simp only[AbC,hpart l1 i (by omega),hpart l2 i (by omega),AbB,hD,run_equalIn_int w d e .u8 .u8 _ _ he];by_cases h:l1.getD i 0=l2.getD i 0
  ·rw[if_pos h,byte_eq,decide_eq_true h];simp[AbE]
  ·rw[if_neg h,byte_eq,decide_eq_false h];simp[AbE]
 ·rfl
theorem L7(w:Abt){t e:Abz}{n:Nat}(ht:P.underlying t=some (.array n e))(he:P.underlying e=some (.int .u8))(hs:(sizeOf e).run P w = .ok 1 w)(hg:P.eqGuardType P.depth t=false)(l1 l2:AgP)(h1:l1.length=n)(h2:l2.length=n)(x y:AbD):
  (do eqGuard .eql t x y (.agg (Abv l1).toArray) (.agg (Abv l2).toArray);binOp .eql t (.agg (Abv l1).toArray) (.agg (Abv l2).toArray):Sem Abs).run P w = .ok (.bool (decide (l1=l2))) w:=by
 have he2:(eqGuard .eql t x y (.agg (Abv l1).toArray) (.agg (Abv l2).toArray)).run P w = .ok () w:=by
  simp[eqGuard,hg]
 rw[AbC,he2,AbB,run_eql_struct,run_eqArray (d:=9998) w ht he hs l1 l2 h1 h2];rfl
theorem NT{ρ:AbD->Abs}{d:Option Tmp}{x y:AbD}{ty2 tt:Abz}{pos:String}{af:Array Ack}{gd:Option (Nat × Bool)}{w:Abt}{t e:Abz}{n:Nat}(ht:P.underlying t=some (.array n e))(he:P.underlying e=some (.int .u8))(hs:(sizeOf e).run P w = .ok 1 w)(hg:P.eqGuardType P.depth t=false){l1 l2:AgP}(h1:l1.length=n)(h2:l2.length=n) 
  (hx:ρ x = .agg (Abv l1).toArray) (hy:ρ y = .agg (Abv l2).toArray):(execOp ρ ⟨d, .binOp .eql t x y ty2,tt,pos,af,gd⟩).run P w = .ok (.value (.bool (decide (l1=l2)))) w:=by
 have h:=L7 (P:=P) w ht he hs hg l1 l2 h1 h2 x y;simp only[execOp,hx,hy];rw[AbC,h];rfl
theorem Zp{w w' :Abt}(h:Ext w w'){a:Addr}{v:Abs}(hc:w.cell? a=some v):w'.cell? a=some v:=by
 rw[Below.cell h (AcL w a hc)];exact hc
theorem Reads.keep{w w' :Abt}{z n:Nat}{v:Abs}{xs:List Abs}(h:Reads w z v n xs)(k:Ext w w'):Reads w' z v n xs:=by
 obtain⟨h1,ao,cap,rfl,h2,h3,h4,h5⟩:=h;exact⟨h1,ao,cap,rfl,h2,h3,h4,fun a ha j u hu=>Zp k (h5 a ha j u hu)⟩
theorem RB.nil(w:Abt):RB w (.slice none 0 0) []:=⟨rfl,none,0,rfl,Abx _,by simp[maxLen],fun _=>⟨rfl,rfl⟩,fun a h=>by cases h⟩
theorem RB.lt{w:Abt}{v:Abs}{l:AgP}(h:RB w v l)(hl:0<l.length){b:Nat}(hb:v.ownBlock=some b):b<w.heap.size:=by
 obtain⟨b',off,cap,rfl,-,-,h1,-⟩:=h.open_ hl;simp[Acb]at hb;omega
theorem RB.slice{w:Abt}{v:Abs}{l:AgP}(h:RB w v l):∃ao n c,v = .slice ao n c:=by
 obtain⟨h1,ao,cap,rfl,-⟩:=h;exact⟨ao,_,cap,rfl⟩
section
variable {P : AbN} {K : Abs -> Abt -> Prop} {ρ : Ah} {w : Abt} {d : Option Tmp} {ty : Abz} {pos : String} {af : Array Ack} {gd : Option (Nat × Bool)}
theorem Zv{t e ty2:Abz}{n:Nat}(ht:P.underlying t=some (.array n e))(he:P.underlying e=some (.int .u8))(hs:∀w:Abt,(sizeOf e).run P w = .ok 1 w)(hg:P.eqGuardType P.depth t=false){x y:AbD}{l1 l2:AgP}(hx:Ab ρ x = .agg (Abv l1).toArray)(hy:Ab ρ y = .agg (Abv l2).toArray)(h1:l1.length=n)(h2:l2.length=n) 
  (hk:K (.bool (decide (l1=l2))) w):Yk P K ((execOp (Ab ρ) ⟨d, .binOp .eql t x y ty2,ty,pos,af,gd⟩).run P w):=
 AaL (NT ht he (hs w) hg h1 h2 hx hy) hk
theorem Zd{t e ty2:Abz}{n:Nat}(ht:P.underlying t=some (.array n e))(he:P.underlying e=some (.int .u8))(hs:∀w:Abt,(sizeOf e).run P w = .ok 1 w)(hg:P.eqGuardType P.depth t=false){x y:AbD}{l1 l2:AgP}(hx:Ab ρ x = .agg (Abv l1).toArray)(hy:Ab ρ y = .agg (Abv l2).toArray)(h1:l1.length=n)(h2:l2.length=n) 
  (hk:K (.bool (decide (l1≠l2))) w):Yk P K ((execOp (Ab ρ) ⟨d, .binOp .neq t x y ty2,ty,pos,af,gd⟩).run P w):=by
 have he2:(eqGuard .neq t x y (.agg (Abv l1).toArray) (.agg (Abv l2).toArray)).run P w = .ok () w:=by
  simp[eqGuard,hg]
 have heq:(Ad8 t (.agg (Abv l1).toArray) (.agg (Abv l2).toArray)).run P w = .ok (decide (l1=l2)) w:=run_eqArray (d:=9998) w ht he (hs w) l1 l2 h1 h2;have hb:(!decide (l1=l2))=decide (l1≠l2):=by simp
 refine AaL (v:= .bool (decide (l1≠l2))) (w' :=w) ?_ hk;unfold execOp;simp only[hx,hy,AbC,he2,AbB,Aca,heq,AbE,hb]
end
section
variable {P : AbN} {K : Abs -> Abt -> Prop} {ρ : Ah} {w : Abt} {d : Option Tmp} {ty : Abz} {pos : String} {af : Array Ack} {gd : Option (Nat × Bool)}
theorem YQ{t:Abz}(ht:P.underlying t=some .string){x y:AbD}{l:AgP}{k:AcG}{i:Nat}(hx:Ab ρ x=St l)(hy:Ab ρ y = .int k (i:Int))(hi:i<l.length)(hk:K (B8 (l.getD i 0)) w):Yk P K ((execOp (Ab ρ) ⟨d, .index t x y,ty,pos,af,gd⟩).run P w):=by
 refine AaL (v:=B8 (l.getD i 0)) (w' :=w) ?_ hk;have hb:(⟨l.toArray⟩:ByteArray)[i]? =some (l.getD i 0):=by
  rw[getElem?_pos (⟨l.toArray⟩:ByteArray) i (show i<l.toArray.size by simpa using hi)];show some (l.toArray[i]'(by simpa using hi))=_;simp[hi]
 unfold execOp;simp only[hx,hy,Instr.index,asIntOf,AbC,AbE,AbB,run_underlying ht];rw[if_pos (by omega),AbZ,hb];rfl
theorem EY(l:AgP):(⟨l.toArray⟩:ByteArray).toList=l:=by
 rw[ByteArray.toList_eq]
theorem U2(l m:AgP):((⟨l.toArray⟩:ByteArray).toList==(⟨m.toArray⟩:ByteArray).toList)=decide (l=m):=by
 rw[EY,EY,AdK];simp
theorem YR{op:BinOp}(hop:op = .eql\/op = .neq){t ty2:Abz}{x y:AbD}{l m:AgP}(hx:Ab ρ x=St l)(hy:Ab ρ y=St m)(b:Bool)(hb:b=match op with | .eql=>decide (l=m) | _=>decide (l≠m))(hk:K (.bool b) w):Yk P K ((execOp (Ab ρ) ⟨d, .binOp op t x y ty2,ty,pos,af,gd⟩).run P w):=by
 refine AaL (v:= .bool b) (w' :=w) ?_ hk;subst hb;have hn:(!decide (l=m))=decide (l≠m):=by simp
 unfold execOp;rcases hop with rfl | rfl
 ·simp only[hx,hy,eqGuard,Aca,Ae7,U2,AbC,AbE];rfl
 ·simp only[hx,hy,eqGuard,Aca,Ae7,U2,hn,AbC,AbE];rfl
theorem Aao{t ty2:Abz}{x y:AbD}{l m:AgP}(hx:Ab ρ x=St l)(hy:Ab ρ y=St m)(hb:l.length+m.length<=9223372036854775807)(hk:K (St (l++m)) w):Yk P K ((execOp (Ab ρ) ⟨d, .binOp .add t x y ty2,ty,pos,af,gd⟩).run P w):=
 Z9 hx hy hb hk
theorem YD{t:Abz}(ht:P.underlying t=some .string){x:AbD}{l:AgP}(hx:Ab ρ x=St l)(hk:K (NI l.length) w):Yk P K ((execOp (Ab ρ) ⟨d, .call ⟨.builtin .len,#[x],#[t]⟩,ty,pos,af,gd⟩).run P w):=by
 have hs:(⟨l.toArray⟩:ByteArray).size=l.length:=by show l.toArray.size=_;simp
 exact Aab ht hx (by rw[hs];exact hk)
theorem Yk.extract{x:AbD}{vs:List Abs}{i:Nat}{v:Abs}(hx:Ab ρ x = .tuple vs.toArray)(hv:vs[i]? =some v)(hk:K v w):Yk P K ((execOp (Ab ρ) ⟨d, .extract x i,ty,pos,af,gd⟩).run P w):=by
 refine AaL (v:=v) (w' :=w) ?_ hk;unfold execOp;simp[hx,Instr.extract,hv]
abbrev AaH:=@Yk.extract
theorem E7{x0 y0:Abs}(h0:x0=y0): [x0]= [y0]:=by rw[h0]
theorem B2{x0 x1 y0 y1:Abs}(h0:x0=y0)(h1:x1=y1): [x0,x1]= [y0,y1]:=by rw[h0,h1]
theorem O6{x0 x1 x2 y0 y1 y2:Abs}(h0:x0=y0)(h1:x1=y1)(h2:x2=y2): [x0,x1,x2]= [y0,y1,y2]:=by rw[h0,h1,h2]
theorem W6{x0 x1 x2 x3 y0 y1 y2 y3:Abs}(h0:x0=y0)(h1:x1=y1)(h2:x2=y2)(h3:x3=y3): [x0,x1,x2,x3]= [y0,y1,y2,y3]:=by rw[h0,h1,h2,h3]
theorem Ys{f:Ade}(hp:Plain P f){c:AbD}{args:Array AbD}{at_:Array Abz}{caps:Array Abs}(hc:Ab ρ c = .func (.func f) #[] caps)(vs:Array Abs)(hv:args.map (Ab ρ)++caps=vs) 
  (h:Calls P f vs w fun e w' =>∃v,e = .returned v/\K v w'):Yk P K ((execOp (Ab ρ) ⟨d, .call ⟨.value c,args,at_⟩,ty,pos,af,gd⟩).run P w):=by
 subst hv;refine Yk.enter (f:=f) (args:=args.map (Ab ρ)++caps) (w' :=w) ?_ h;unfold execOp;simp[resolve,hc,Deferred.ofValue,invoke,hp _ w]
theorem Yh{f:Fn}{caps:Array AbD}{vs:Array Abs}(hv:caps.map (Ab ρ)=vs)(hk:K (.func f #[] vs) w):Yk P K ((execOp (Ab ρ) ⟨d, .makeFunc f #[] caps,ty,pos,af,gd⟩).run P w):=by
 refine AaL (v:= .func f #[] vs) (w' :=w) ?_ hk;unfold execOp;simp[Instr.makeFunc,hv]
theorem Aad{t ty2:Abz}(ht:P.underlying t=some .bool){x y:AbD}{a b:Bool}(hx:Ab ρ x = .bool a)(hy:Ab ρ y = .bool b)(hk:K (.bool (a==b)) w):Yk P K ((execOp (Ab ρ) ⟨d, .binOp .eql t x y ty2,ty,pos,af,gd⟩).run P w):=by
 have hr:(Ad8 t (.bool a) (.bool b)).run P w = .ok (a==b) w:=by
  unfold Ad8;rw[show AeJ=(AeJ-1)+1 from rfl];simp[Adp,run_underlying ht,AbC,AbE]
 refine AaL (v:= .bool (a==b)) (w' :=w) ?_ hk;unfold execOp;simp[hx,hy,eqGuard,Aca,hr]
theorem YA{e:Abz}{x:AbD}{v:Abs}(hx:Ab ρ x=v)(hv:v.cells = #[v]) 
  (hk:∀n w',w.heap.size=n->w'.heap[n]? =some (.cells ([v]:List Abs).toArray e (0,0))->Ext w w' ->w'.heap.size=n+1->K (.pointer (some ⟨n,0,none⟩)) w'):Yk P K ((execOp (Ab ρ) ⟨d, .box e x,ty,pos,af,gd⟩).run P w):=by
 have hr:(execOp (Ab ρ) ⟨d, .box e x,ty,pos,af,gd⟩).run P w = .ok (.value (.pointer (some ⟨w.heap.size,0,none⟩))) (w.alloc (.cells #[v] e)):=by
  show((Instr.box e (Ab ρ x)).run P w).andThen (fun v w=>AfI (Next.value v) w)=_;rw[hx];simp[Instr.box,newVar,hv];rfl
 rw[hr];exact hk _ _ rfl (heap_alloc_new w _) ((Aco _ _).alloc (Abx _) _) (by simp)
end
theorem Cq{w:Abt}{b:Nat}{e:Abz}{z n:Nat}{v:Abs}{xs:List Abs}(h:w.ownsRow b e z v n xs):v.cells = #[v]/\v.oneCell' =true:=by
 rcases h.2 with ⟨rfl,_⟩ | ⟨g,cap,cur,rfl,-⟩ <;> exact⟨rfl,rfl⟩
theorem RB.one{w:Abt}{v:Abs}{l:AgP}(h:RB w v l):v.cells = #[v]/\v.oneCell' =true:=by
 obtain⟨-,ao,cap,rfl,-⟩:=h;exact⟨rfl,rfl⟩
abbrev Abp:=@RB.one
/-! ### Bits of numbers that are not below 0 -/
theorem H4(t:Abz)(a b:Nat)(ha:a<256)(hb:b<256):Aca .and t (.int .u8 (a:Int)) (.int .u8 (b:Int))=pure (.int .u8 ((a&&&b:Nat):Int)):=by
 unfold Aca;simp only[ne_eq,not_true_eq_false,if_false,Op.intBits,Adv,BitVec.ofInt_natCast];have h1:(Ad0 8 a&&&Ad0 8 b).toNat=a&&&b:=by
  rw[BitVec.toNat_and,AeA,AeA,AeL (by omega),AeL (by omega)]
 show pure (Value.int .u8 (IntKind.u8.wrap (((Ad0 8 a&&&Ad0 8 b).toNat:Nat):Int)))=_;rw[h1,Vo _ (Nat.lt_of_le_of_lt Nat.and_le_left ha)]
def RG{α:Type}(k:Nat)(enc:α->List Abs)(w:Abt)(v:Abs)(l:List α):Prop:=(∀x∈l,(enc x).length=k)/\Reads w k v l.length (l.flatMap enc)
def OG{α:Type}(base:Nat)(t:Abz)(k:Nat)(enc:α->List Abs)(w:Abt)(v:Abs)(l:List α):Prop:=(∀x∈l,(enc x).length=k)/\w.ownsRow base t k v l.length (l.flatMap enc)
def PR(cs:List Abs)(v:Abs)(w:Abt):Prop:=∃b o,v = .pointer (some ⟨b,o,none⟩)/\w.rangeAt b o cs
section
variable {α : Type} {k base : Nat} {t : Abz} {enc : α -> List Abs} {w w' : Abt} {v x : Abs} {l : List α} {cs : List Abs}
theorem RG.keep(h:RG k enc w v l)(e:Ext w w'):RG k enc w' v l:=⟨h.1,h.2.keep e⟩
theorem OG.keep(h:OG base t k enc w v l)(e:Ext w w'):OG base t k enc w' v l:=⟨h.1,AaX _ _ _ _ _ _ _ _ h.2 e⟩
theorem OG.kept{g:Nat}(h:OG base t k enc w v l)(e:w.grownBy w' (some g))(hne:v.ownBlock≠some g):OG base t k enc w' v l:=⟨h.1,Er h.2 e hne⟩
abbrev AaI:=@OG.kept
theorem X7(h:RG k enc w v l)(e:x=v):RG k enc w x l:=by rw[e];exact h
theorem YO(h:OG base t k enc w v l)(e:x=v):OG base t k enc w x l:=by rw[e];exact h
theorem PR.keep(h:PR cs v w)(e:Ext w w'):PR cs v w' :=by
 obtain⟨b,o,h1,h2⟩:=h;exact⟨b,o,h1,fun j u hu=>Zp e (h2 j u hu)⟩
abbrev Aa4:=@PR.keep
theorem Yo(h:PR cs v w)(e:x=v):PR cs x w:=by rw[e];exact h
theorem RG.nil(k:Nat)(enc:α->List Abs)(w:Abt):RG k enc w (.slice none 0 0) []:=⟨by simp,by simp,none,0,rfl,Abx _,by simp[maxLen],fun _=>⟨rfl,rfl⟩,fun a h=>by cases h⟩
abbrev Abi:=@RG.nil
theorem OG.nil(base:Nat)(t:Abz)(k:Nat)(enc:α->List Abs)(w:Abt):OG base t k enc w (.slice none 0 0) []:=⟨by simp,Ac1 w base t k⟩
abbrev AaQ:=@OG.nil
theorem RG.one(h:RG k enc w v l):v.cells = #[v]/\v.oneCell' =true:=by
 obtain⟨-,-,ao,cap,rfl,-⟩:=h;exact⟨rfl,rfl⟩
abbrev AaK:=@RG.one
theorem RG.len(h:RG k enc w v l):∃ao c,v = .slice ao l.length c:=by
 obtain⟨-,-,ao,cap,rfl,-⟩:=h;exact⟨ao,cap,rfl⟩
theorem XY(h:OG base t k enc w v l):RG k enc w v l:=by
 refine⟨h.1,h.2.1,?_⟩;have h' :=h.2;rcases h.2.2 with ⟨rfl,h0⟩ | ⟨g,cap,cur,rfl,hbg,hg,hnc,hcm,hcs,htake⟩
 ·exact⟨none,0,by rw[h0],by omega,by simp[maxLen],fun _=>⟨h0,rfl⟩,fun a ha=>by cases ha⟩
 ·exact⟨some ⟨g,0,none⟩,cap,rfl,hnc,hcm,(fun h=>by cases h),(fun a ha j u hu=>by cases ha;exact h'.cells rfl j u hu)⟩
theorem Ha(h:∀x∈l,(enc x).length=k):(l.flatMap enc).length=l.length*k:=by
 induction l with
 | nil=>simp
 | cons a r ih=>
  rw[Acl,Aby,ih (fun x hx=>h x (by simp[hx])),h a (by simp),AbK,AcN];omega
theorem Jk(d:α):∀(l:List α),(∀x∈l,(enc x).length=k)->∀i,i<l.length->∀j u,(enc (l.getD i d))[j]? =some u->(l.flatMap enc)[i*k+j]? =some u
 | [],_,i,hi,_,_,_=>by simp at hi
 | a :: r,h,0,_,j,u,hu=>by
  have hj:=(AbW.1 hu).1;simp only[List.getD_cons_zero]at hu hj;rw[Acl,Ad1,Adc,AcM hj];exact hu
 | a :: r,h,i+1,hi,j,u,hu=>by
  simp only[List.getD_cons_succ]at hu;have ih:=Jk d r (fun x hx=>h x (by simp[hx])) i (by simpa using hi) j u hu;rw[Acl,AcC (by rw[h a (by simp),AcN];omega),h a (by simp)];rw[show(i+1)*k+j-k=i*k+j by rw[AcN];omega];exact ih
theorem RG.rangeAt(d:α)(h:RG k enc w v l)(hk:0<k){i:Nat}(hi:i<l.length):∃b o c,v = .slice (some ⟨b,o,none⟩) l.length c/\w.rangeAt b (o+i*k) (enc (l.getD i d)):=by
 obtain⟨h1,h2,ao,cap,rfl,h3,h4,h5,h6⟩:=h;cases ao with
 | none=>have:=(h5 rfl).1;omega
 | some a=>
  obtain⟨b,o,sp⟩:=a;have hx:l.getD i d∈l:=by
   rw[AbA,AbG hi];exact Ada hi
  have hc:∀j u,(enc (l.getD i d))[j]? =some u->w.cell? ((⟨b,o,sp⟩:Addr).add (i*k+j))=some u:=fun j u hu=>h6 _ rfl _ _ (Jk d l h1 i hi j u hu);have e:=h1 (l.getD 0 d) (by rw[AbA,AbG (by omega)];exact Ada _);have h0:=h6 _ rfl _ _ (Jk d l h1 0 (by omega) 0 ((enc (l.getD 0 d))[0]'(by omega)) (by rw[AbG]));have hsp:sp=none:=by
   have:=World.cell?_spot h0
   simpa [AdZ] using this
  subst hsp;refine⟨b,o,cap,rfl,fun j u hu=> ?_⟩;have:=hc j u hu;rw[AcT]at this;rw[AdN];exact this
end
section
variable {P : AbN} {K : Abs -> Abt -> Prop} {ρ : Ah} {w : Abt} {d : Option Tmp} {ty : Abz} {pos : String} {af : Array Ack} {gd : Option (Nat × Bool)}
variable {α : Type} {k : Nat} {enc : α -> List Abs} {l : List α}
theorem Yj{t e:Abz}(ht:P.underlying t=some (.slice e))(he:∀w' :Abt,(sizeOf e).run P w' = .ok k w')(a:0<k){x y:AbD}(dd:α)(h:RG k enc w (Ab ρ x) l){kd:AcG}{i:Nat}(hy:Ab ρ y = .int kd (i:Int))(hi:i<l.length) 
  (hk:∀v,PR (enc (l.getD i dd)) v w->K v w):Yk P K ((execOp (Ab ρ) ⟨d, .indexAddr t x y,ty,pos,af,gd⟩).run P w):=by
 obtain⟨b,o,c,hv,hr⟩:=h.rangeAt dd a hi;refine AaL (v:= .pointer (some ⟨b,o+i*k,none⟩)) (w' :=w) ?_ (hk _ ⟨b,_,rfl,hr⟩);have hE:P.elem t=e:=by simp[Program.elem,ht]
 have hr:=run_indexAt_slice (P:=P) w t ⟨b,o,none⟩ l.length c kd (i:Int) (by rw[hE];exact ht);rw[if_pos (by omega),hE,he]at hr;unfold execOp;simp only[hv,hy,AbC,hr,AbB,AbE];simp[AcT]
theorem X8{t e:Abz}(ht:P.underlying t=some (.slice e)){x:AbD}{w0:Abt}(h:RG k enc w0 (Ab ρ x) l)(hk:K (NI l.length) w):Yk P K ((execOp (Ab ρ) ⟨d, .call ⟨.builtin .len,#[x],#[t]⟩,ty,pos,af,gd⟩).run P w):=by
 obtain⟨ao,c,hv⟩:=h.len;exact Zc ht hv hk
theorem X3{t' :Abz}{x:AbD}{cs:List Abs}{de:TypeDesc}(h:PR cs (Ab ρ x) w)(hu:P.underlying t' =some de)(hd:de.isRow=true)(hi:(P.info? t').map (·.size)=some cs.length) 
  (hk:K (.agg cs.toArray) w):Yk P K ((execOp (Ab ρ) ⟨d, .load t' x,ty,pos,af,gd⟩).run P w):=by
 obtain⟨b,o,hx,hr⟩:=h;exact ZJ hx hr hu hd hi hk
theorem Y2{s:Abz}{f off n:Nat}(hf:AG P s f off){x:AbD}{cs:List Abs}(h:PR cs (Ab ρ x) w)(hk:∀v,PR ((cs.drop off).take n) v w->K v w):Yk P K ((execOp (Ab ρ) ⟨d, .fieldAddr s x f,ty,pos,af,gd⟩).run P w):=by
 obtain⟨b,o,hx,hr⟩:=h;refine AaE hf hx (hk _ ⟨b,o+off,rfl,fun j v hv=> ?_⟩);rw[Adr]at hv;split at hv
 ·rw[AdG]at hv;have:=hr _ _ hv;rw[<-AdN]at this;exact this
 ·cases hv
theorem PR.cell{cs:List Abs}{v u:Abs}(h:PR cs v w)(hc:cs[0]? =some u):PCell u v w:=by
 obtain⟨b,o,hx,hr⟩:=h;exact⟨_,hx,by have:=hr 0 u hc;simpa using this⟩
theorem RG.src{tx e' :Abz}(hk:P.underlying tx=some (.slice e')){v:Abs}(h1:∀x∈l,∀u∈enc x,u.oneCell' =true)(h:RG k enc w v l):Src P k tx v l.length (l.flatMap enc) w:=by
 obtain⟨h0,h2,ao,cap,rfl,h3,h4,h5,h6⟩:=h;cases ao with
 | none=>
  obtain⟨h7,rfl⟩:=h5 rfl;have:l= []:=Acm h7;subst this;exact Src.ofNil w hk 0
 | some a=>exact Src.ofSlice w hk a _ cap _ h2 (h6 a rfl) (fun u hu=>by
   obtain⟨x,hx,hxu⟩:=List.mem_flatMap.1 hu;exact h1 x hx u hxu)
theorem Yt(s x:AbD){t tx e e' :Abz}(base:Nat)(z:Abs)(bytes:Nat)(ht:P.underlying t=some (.slice e))(hi:(P.info? e).map (fun i=>(i.zero,i.size,i.bytes))=some (some z,k,bytes))(hzs:z.cells.size=k)(hu:P.underlying tx=some (.slice e')) 
  (l m:List α) (hown:OG base e k enc w (Ab ρ s) l) (hsrc:RG k enc w (Ab ρ x) m) (h1:∀x∈m,∀u∈enc x,u.oneCell' =true) (hb:l.length+m.length<=281474976710656) (hbb:(l.length+m.length)*bytes<=140737488355328) (hbase:base<=w.heap.size)
  (h:∀v' w',OG base e k enc w' v' (l++m)->Grew w w' (Ab ρ s) v' ->K v' w'):Yk P K ((execOp (Ab ρ) ⟨d, .call ⟨.builtin .append,#[s,x],#[t,tx]⟩,ty,pos,af,gd⟩).run P w):=
 Yk.append s x base e z k bytes ht hi hzs l.length (l.flatMap enc) hown.2 m.length (m.flatMap enc) (hsrc.src hu h1) (by unfold maxLen;omega) hbb hbase fun v' w' ho g=>h v' w' ⟨fun x hx=>(Acf.1 hx).elim (hown.1 x) (hsrc.1 x),by rw[Aby,List.flatMap_append];exact ho⟩ g
theorem Zq{w:Abt}{b:Nat}{x:α}{t:Abz}{fr:Nat × Nat}(hl:(enc x).length=k)(hb:w.heap[b]? =some (.cells (enc x).toArray t fr)):RG k enc w (.slice (some ⟨b,0,none⟩) 1 1) [x]:=
 ⟨by simpa using hl,by simpa using hl,some ⟨b,0,none⟩,1,rfl,Abx _,by simp[maxLen],(fun h=>by cases h),fun a ha j u hu=>by
  cases ha;rw[AcT,Adc];exact Ac hb (by simpa using hu)⟩
end
theorem CL{α:Type}{l:List α}{i:Nat}(d:α)(h:i<l.length):l.getD i d∈l:=by
 rw[AbA,AbG h];exact Ada h
theorem OG.low{α:Type}{b b' k:Nat}{t:Abz}{enc:α->List Abs}{w:Abt}{v:Abs}{l:List α}(h:OG b t k enc w v l)(hb:b' <=b):OG b' t k enc w v l:=⟨h.1,AD h.2 hb⟩
abbrev AaP:=@OG.low
section
variable {P : AbN}
theorem ZK{K:Abs->Abt->Prop}{ρ:Tmp->Abs}{t e:Abz}{n:Nat}(ht:P.underlying t=some (.array n e))(he:∀w' :Abt,(sizeOf e).run P w' = .ok 1 w'){x:AbD}{d:Option Tmp}{ty:Abz}{pos:String}{af:Array Ack}{gd:Option (Nat × Bool)}{w:Abt}{b o:Nat} 
  (hx:Ab ρ x = .pointer (some ⟨b,o,none⟩)) (hk:K (.slice (some ⟨b,o,none⟩) n n) w):Yk P K ((execOp (Ab ρ) ⟨d, .slice t x none none none,ty,pos,af,gd⟩).run P w):=by
 refine AaL (v:= .slice (some ⟨b,o,none⟩) n n) (w' :=w) ?_ hk;have hE:P.elem t=e:=by simp[Program.elem,ht]
 have hN:P.arrayLen t=n:=by simp[Program.arrayLen,ht]
 have hr:=run_sliceAt_array_all (P:=P) (w:=w) (t:=t) (a:=⟨b,o,none⟩) (by rw[hE,hN];exact ht);rw[hE,he,hN]at hr;unfold execOp;simp only[hx,Adl,AbC,hr,AbB,AbE];simp[slicedAt,AcT]
end
section
variable {P : AbN} {K : Abs -> Abt -> Prop} {ρ : Ah} {w : Abt} {d : Option Tmp} {ty : Abz} {pos : String} {af : Array Ack} {gd : Option (Nat × Bool)}
theorem Yw{t' :Abz}{x y:AbD}{g o:Nat}{a m z cells:List Abs}{t:Abz}(hx:Ab ρ x = .pointer (some ⟨g,o,none⟩))(hy:Ab ρ y = .agg cells.toArray)(hg:w.heap[g]? =some (.cells (a++m++z).toArray t (0,0)))(ha:a.length=o)(hm:m.length=cells.length)(hi:(P.info? t').map (·.size)=some cells.length)(h1:∀v∈cells,v.oneCell' =true) 
  (hk:∀w',w'.heap[g]? =some (.cells (a++cells++z).toArray t (0,0))->w.grownBy w' (some g)->w'.heap.size=w.heap.size->K undef w'):Yk P K ((execOp (Ab ρ) ⟨d, .store t' x y,ty,pos,af,gd⟩).run P w):=by
 have hst:=run_storeCells_at P g o t cells 0 (a++m++z).toArray w hg (by simp;omega) h1;have e:((a++m++z).toArray.toList.take (o+0)++cells++(a++m++z).toArray.toList.drop (o+0+cells.length))=a++cells++z:=by
  have b:(a++m++z).take o=a:=by rw[AbV,<-ha,AcH];rfl
  have c:(a++m++z).drop (o+cells.length)=z:=List.drop_left' (by rw[Aby];omega);rw[List.toList_toArray,AeR,b,c]
 rw[e]at hst;have hr:(Aer t' (.pointer (some ⟨g,o,none⟩)) (.agg cells.toArray)).run P w = .ok () (w.setRow g (a++cells++z).toArray):=by
  cases hq:P.info? t' with
  | none=>simp[hq]at hi
  | some i=>
   have hsz:cells.length=i.size:=by simp[hq]at hi;omega
   simp[Aer,AdW,storeVar,sizeOf,typeInfo,hq,Value.cells,hsz]at hst ⊢;simp[hst]
 unfold execOp;simp only[hx,hy,hr,AbC,AbB,AbE];exact hk _ (setRow_heap w g (a++m++z).toArray _ t (0,0) hg) ⟨rfl,rfl,rfl,by simp,fun k _ hk=>setRow_other w g k _ (fun e=>hk (by rw[e]))⟩ (by simp)
theorem Zw{α:Type}{k:Nat}{enc:α->List Abs}{t e:Abz}(hr:∀(w:Abt),(Ab1 t 0 #[]).run P w = .ok (.slice (some ⟨w.heap.size,0,none⟩) 0 0) (w.alloc (.cells #[] e))) 
  (hk:∀v w',OG w.heap.size e k enc w' v []->Ext w w' ->K v w'):Yk P K ((execOp (Ab ρ) ⟨d, .buildSlice t 0 #[],ty,pos,af,gd⟩).run P w):=by
 have hr' :(execOp (Ab ρ) ⟨d, .buildSlice t 0 #[],ty,pos,af,gd⟩).run P w = .ok (.value (.slice (some ⟨w.heap.size,0,none⟩) 0 0)) (w.alloc (.cells #[] e)):=by
  unfold execOp;simp only[AbI,AbP,AbC,hr,AbB,AbE]
 rw[hr'];refine hk _ _ ⟨fun x hx=>(Acx hx).elim,⟨by simp, .inr ⟨w.heap.size,0,#[],rfl,Abx _,heap_alloc_new w _,Abx _,by simp[maxLen],by simp,by simp⟩⟩⟩ (Below.alloc (Aco _ _) (Abx _) _)
end
theorem FE{w:Abt}{α:Type}{b k:Nat}{e:Abz}{enc:α->List Abs}{v:Abs}{l l' :List α}(h:OG b e k enc w v l)(e' :l=l'):OG b e k enc w v l' :=by rw[<-e'];exact h
theorem GK:Tryz.prog.underlying 43=some (.slice 5):=by kernel_rfl
theorem Wo:Tryz.prog.underlying 9=some .string:=by kernel_rfl
theorem O7:(Tryz.prog.info? 5).map (fun i=>(i.zero,i.size,i.bytes))=some (some (.int .u8 0),1,1):=by kernel_rfl

theorem KH(w:Abt)(v:Abs)(l:AgP)(hr:RB w v l)(hl:l.length+16<=140737488355328):
  Calls Tryz.prog 103 #[v] w fun e w' =>∃v',e = .returned v' /\NewB 5 w w' v' l:=by
 obtain⟨i0,hi,a,c,f⟩:=info_parts O7;have hsrc:∀w' :Abt,w.grownBy w' none->Src Tryz.prog 1 43 v l.length (Abv l) w' :=fun w' hg=>
  (hr.below (B:=w.heap.size) ((Aco _ _).grown hg (Abx _) (fun k hk=>by cases hk)) rfl).src GK
 have HS:=Lib.hid hsrc;clear hsrc;obtain⟨h1,ao,cap,rfl,h2,h3,h4,h5⟩:=hr;have h:l.length<=140737488355312:=by omega
 clear h1 h4 h5 hl;unfold maxLen at h3
 go_enter Tryz.func103,Tryz.ntmps103
 go_wp2_with (at_make;refine wpList_make_own _ rfl _ _ 43 rfl w.heap.size 5 i0 (.int .u8 0) 1 GK hi a c _ _ _ (l.length+16) rfl rfl (by omega) ?b1 ?b2 ?b3 ?_)
 case b1=>rw[f];omega
 case b2=>unfold maxLen;omega
 case b3=>exact Abx _
 intro w1 hown hg;have g:=HS.out w1 hg
 go_wp2_with (at_builtin;refine C6 _ rfl _ _ 43 43 rfl w.heap.size 5 i0 (.int .u8 0) 1 1 GK hi a c f rfl _ _ _ rfl hown _ _ _ rfl g ?c1 ?c2 ?c3 ?_)
 case c1=>unfold maxLen;omega
 case c2=>omega
 case c3=>exact hg.size
 intro v' w2 hown2 hgrow
 go_wp2
 go_ret
 refine⟨v',rfl,by simpa using hown2,Aa hg hgrow.by_ (fun b hb=> ?_)⟩;simp[Acb]at hb;omega
set_option maxRecDepth 100000 in
set_option maxHeartbeats 1000000 in
theorem JI(B n x:Nat)(hx:x<18446744073709551616)(sv:Abs)(xs:List Abs)(w:Abt)(hown:w.ownsRow B 5 1 sv n xs)(hBw:B<=w.heap.size)(hlim:n+10<=140737488355328):
  Calls Tryz.prog 102 #[sv, .int .u64 x] w fun e w' =>∃v',e = .returned v' /\w'.ownsRow B 5 1 v' (n+(AbU x).length) (xs++Abv (AbU x))/\Grew w w' sv v' :=by
 obtain⟨i0,hi,a,b,c⟩:=info_parts O7;have hlen:=Lib.uvarint_length64 hx
 go_enter Tryz.func102,Tryz.ntmps102
 go_wp2
 go_loopw [0,1] (fun vb vx wr=>∃(y:Nat) (pre:AgP),vx = .int .u64 y/\y<=x/\AbU x=pre++AbU y/\wr.ownsRow B 5 1 vb (n+pre.length) (xs++Abv pre)/\Grew w wr sv vb)
  (fun _ vx _=>(intOf vx).toNat)
 case atStart=>exact⟨x,[],rfl,Abx _,rfl,by simpa [Abv] using hown,Abq _ _⟩
 case round=>
  obtain⟨y,pre,rfl,hy,hsplit,hown1,hnx⟩:=hrel;have hpl:pre.length+(AbU y).length<=10:=by
   have h2:=congrArg List.length hsplit;rw[Aby]at h2;omega
  have hyp:=Lib.uvarint_pos y;have hbw:=hnx.by_.size;by_cases h128:128<=y
  ·have hor:bits .or .u8 ((y:Int)%256) 128=((y%128+128:Nat):Int):=by
    rw[Lib.u8_or128_any _ (by omega) (by omega)];omega
   go_wp2_with (at_builtin;refine C6 _ rfl _ _ 43 43 rfl B 5 i0 (.int .u8 0) 1 1 GK hi a b c rfl _ _ _ rfl (hown1.alloc _) (.slice (some ⟨wr.heap.size,0,none⟩) 1 1) 1 [_] rfl (QB GK wr _ _ rfl) ?c1 ?c2 ?c3 ?_)
   case c1=>unfold maxLen;omega
   case c2=>omega
   case c3=>simp;omega
   intro v' w1 hown' hgrow;have hnx1:Grew w w1 sv v' :=(hnx.alloc _).trans hgrow
   go_wp2
   go_roundw
   case rel=>
    refine⟨y/128,pre++ [(y%128+128).toUInt8],by go_num,by omega,by rw[hsplit,Lib.uvarint_big h128];simp,?_,hnx1⟩;have ec:((y%128+128:Nat):Int)=(y:Int)%128+128:=by omega
    rw[Lib.byteCells_snoc pre (by omega),Aby,Ab7,<-AdN,ec];exact hown'
   case measure=>simp[intOf];omega
  ·have hsm:AbU y= [y.toUInt8]:=Lib.uvarint_small (by omega)
   go_wp2_with (at_builtin;refine C6 _ rfl _ _ 43 43 rfl B 5 i0 (.int .u8 0) 1 1 GK hi a b c rfl _ _ _ rfl (hown1.alloc _) (.slice (some ⟨wr.heap.size,0,none⟩) 1 1) 1 [_] rfl (QB GK wr _ _ rfl) ?d1 ?d2 ?d3 ?_)
   case d1=>unfold maxLen;omega
   case d2=>omega
   case d3=>simp;omega
   intro v' w1 hown' hgrow;have hnx1:Grew w w1 sv v' :=(hnx.alloc _).trans hgrow
   go_wp2
   go_ret
   refine⟨v',rfl,?_,hnx1⟩;rw[hsplit,hsm,Lib.byteCells_snoc pre (by omega),Aby,Ab7,<-AdN];exact hown'
theorem HH(n:Nat)(h:n<9223372036854775808):(AbU n).length<=9:=Lib.uvarint_length 8 n (Nat.lt_of_lt_of_le h (by decide))

theorem Oz(w:Abt)(v:Abs)(l:AgP)(hr:RB w v l)(hl:l.length+16<=140737488355328)(n:Nat)(hn:n<=9223372036854775807):
  Calls Tryz.prog 56 #[v, .int .i64 n] w fun e w' =>∃v',e = .returned (.tuple #[v', .int .i64 0])/\NewB 5 w w' v' (l++AbU n):=by
 go_enter Tryz.func56,Tryz.ntmps56
 go_wp2_with fail
 refine(KH _ _ l hr hl).mono ?_;rintro e w1 ⟨a,rfl,h1⟩
 go_wp2_with fail
 refine(JI w.heap.size l.length n (by omega) a _ w1 h1.own h1.by_.size (by omega)).mono ?_;rintro e w2 ⟨b,rfl,ho,g⟩
 go_wp2_with fail
 go_ret2
 exact⟨b,rfl,h1.more g ho⟩
set_option maxHeartbeats 1600000
abbrev Bs:=AgP
abbrev B4:= { l:AgP // l.length=32 }
def zid:B4:=⟨List.replicate 32 0,rfl⟩
theorem Mu{l:AgP}{r:List Abs}(h:l.length=32){k:Nat}:(Abv l++r)[32+k]? =r[k]? :=by
 rw[AcC (by rw[AbH,h];omega),AbH,h,AdA]
theorem O8{l:AgP}{r:List Abs}{v:Abs}(h:l.length=32){k:Nat}:(Abv l++r).set (32+k) v=Abv l++r.set k v:=by
 rw[List.set_append_right _ _ (by rw[AbH,h];omega),AbH,h,AdA]
theorem W7{l:List Abs}{n:Nat}{v:Abs}(h:l[n]? =some v):(l.drop n).take 1= [v]:=by
 obtain⟨hn,e⟩:=AbW.1 h;rw[List.drop_eq_getElem_cons hn,e];rfl
theorem QI{w:Abt}{g o:Nat}{a z:List Abs}{l:AgP}{t:Abz}{fr:Nat × Nat}(hb:w.heap[g]? =some (.cells (a++Abv l++z).toArray t fr))(ha:a.length=o):w.rangeAt g o (Abv l):=fun j u hu=>by
 refine Ac hb ?_;have hj:=(AbW.1 hu).1;rw[AbV,AcC (by omega),ha,AdA,AcM hj];exact hu
theorem AM{P:AbN}{t:Abz}{k:Nat}{l:List Abs}(hl:l.length=k)(hi:(P.info? t).map (·.size)=some k):(P.info? t).map (·.size)=some l.toArray.size:=by rw[Ab5,hl];exact hi
theorem PR.blk{w:Abt}{g o:Nat}{cs a z:List Abs}{l:AgP}{t:Abz}{fr:Nat × Nat}{v:Abs}(hb:w.heap[g]? =some (.cells cs.toArray t fr))(hm:cs=a++Abv l++z)(hn:a.length=o)(hv:v = .pointer (some ⟨g,o,none⟩)):PR (Abv l) v w:=⟨g,o,hv,QI (by rw[<-hm];exact hb) hn⟩
abbrev AaS:=@PR.blk
theorem Ze{c v:Abs}{w:Abt}(h:PR [c] v w):PCell c v w:=by
 obtain⟨b,o,rfl,h⟩:=h;exact⟨_,rfl,h 0 c rfl⟩
theorem JJ{α:Type}{l:List α}(h:l.length=32):∃(a0 a1 a2 a3 a4 a5 a6 a7 a8 a9 a10 a11 a12 a13 a14 a15 a16 a17 a18 a19 a20 a21 a22 a23 a24 a25 a26 a27 a28 a29 a30 a31:α),l= [a0,a1,a2,a3,a4,a5,a6,a7,a8,a9,a10,a11,a12,a13,a14,a15,a16,a17,a18,a19,a20,a21,a22,a23,a24,a25,a26,a27,a28,a29,a30,a31]:=by
 match l,h with
 | [a0,a1,a2,a3,a4,a5,a6,a7,a8,a9,a10,a11,a12,a13,a14,a15,a16,a17,a18,a19,a20,a21,a22,a23,a24,a25,a26,a27,a28,a29,a30,a31],_=>exact⟨a0,a1,a2,a3,a4,a5,a6,a7,a8,a9,a10,a11,a12,a13,a14,a15,a16,a17,a18,a19,a20,a21,a22,a23,a24,a25,a26,a27,a28,a29,a30,a31,rfl⟩
theorem DO{x y:AgP}(hx:x.length=32)(hy:y.length=32):(Abv x).toArray.size=(Abv y).toArray.size:=by simp[Abv,hx,hy]
section
variable {P : AbN} {K : Abs -> Abt -> Prop} {ρ : Ah} {w : Abt} {d : Option Tmp} {ty : Abz} {pos : String} {af : Array Ack} {gd : Option (Nat × Bool)}
theorem ZT{op:BinOp}(hop:op = .lss\/op = .geq){t ty2:Abz}{x y:AbD}{l m:AgP}(hx:Ab ρ x=St l)(hy:Ab ρ y=St m)(b:Bool)(hb:b=match op with | .lss=>Op.bytesLess l m | _=> !(Op.bytesLess l m))(hk:K (.bool b) w):Yk P K ((execOp (Ab ρ) ⟨d, .binOp op t x y ty2,ty,pos,af,gd⟩).run P w):=by
 refine AaL (v:= .bool b) (w' :=w) ?_ hk;subst hb;unfold execOp;rcases hop with rfl | rfl
 ·simp only[hx,hy,eqGuard,Aca,Ae7,EY,AbC,AbE];rfl
 ·simp only[hx,hy,eqGuard,Aca,Ae7,EY,AbC,AbE];rfl
end
structure Ax where
 kind:UInt8
 name:Bs
 old:B4
 new:B4
def updC(x:Ax):List Abs:=B8 (x.kind) :: St (x.name) :: (Abv x.old.1++(Abv x.new.1))
theorem Cr(x:Ax):(updC x).length=66:=by simp[updC,AbH,(x.old).2,(x.new).2]
theorem GL{x:Ax}:∀u∈updC x,u.oneCell' =true:=by
 intro u hu;simp only[updC,Ab6,Acf,Acx,or_false]at hu;rcases hu with rfl | rfl | hu | hu
 ·rfl
 ·rfl
 ·exact Aw _ u hu
 ·exact Aw _ u hu
theorem Fb(x:Ax):(updC x)[0]? =some (B8 (x.kind)):=by
 rfl
theorem Eg(x:Ax):(updC x)[1]? =some (St (x.name)):=by
 rfl
theorem Wp(x:Ax)(v:Bs):(updC x).set 1 (St (v))=updC ({ x with name:=v }):=by
 rfl
def GM(x:Ax):List Abs:=B8 (x.kind) :: St (x.name) :: []
def JL(x:Ax):List Abs:=Abv x.new.1
theorem Eh(x:Ax):updC x=GM x++Abv x.old.1++JL x:=by simp[updC,GM,JL]
theorem EH(x:Ax):(GM x).length=2:=by simp[GM,AbH]
theorem Wq(x:Ax)(v:B4):GM x++Abv v.1++JL x=updC ({ x with old:=v }):=(Eh ({ x with old:=v })).symm
def GN(x:Ax):List Abs:=B8 (x.kind) :: St (x.name) :: Abv x.old.1
def JM(x:Ax):List Abs:= []
theorem CM(x:Ax):updC x=GN x++Abv x.new.1++JM x:=by simp[updC,GN,JM]
theorem CW(x:Ax):(GN x).length=34:=by simp[GN,AbH,(x.old).2]
theorem Wr(x:Ax)(v:B4):GN x++Abv v.1++JM x=updC ({ x with new:=v }):=(CM ({ x with new:=v })).symm
structure A5 where
 kind:UInt8
 name:Bs
 old:B4
 new:B4
 note:Bs
def entC(x:A5):List Abs:=B8 (x.kind) :: St (x.name) :: (Abv x.old.1++(Abv x.new.1++(St (x.note) :: [])))
theorem CT(x:A5):(entC x).length=67:=by simp[entC,AbH,(x.old).2,(x.new).2]
theorem FJ{x:A5}:∀u∈entC x,u.oneCell' =true:=by
 intro u hu;simp only[entC,Ab6,Acf,Acx,or_false]at hu;rcases hu with rfl | rfl | hu | hu | rfl
 ·rfl
 ·rfl
 ·exact Aw _ u hu
 ·exact Aw _ u hu
 ·rfl
theorem QJ(x:A5):(entC x)[0]? =some (B8 (x.kind)):=by
 rfl
theorem Ws(x:A5)(v:UInt8):(entC x).set 0 (B8 (v))=entC ({ x with kind:=v }):=by
 rfl
theorem QK(x:A5):(entC x)[1]? =some (St (x.name)):=by
 rfl
theorem Wt(x:A5)(v:Bs):(entC x).set 1 (St (v))=entC ({ x with name:=v }):=by
 rfl
def GO(x:A5):List Abs:=B8 (x.kind) :: St (x.name) :: []
def JN(x:A5):List Abs:=Abv x.new.1++(St (x.note) :: [])
theorem Mv(x:A5):entC x=GO x++Abv x.old.1++JN x:=by simp[entC,GO,JN]
theorem QL(x:A5):(GO x).length=2:=by simp[GO,AbH]
theorem Wu(x:A5)(v:B4):GO x++Abv v.1++JN x=entC ({ x with old:=v }):=(Mv ({ x with old:=v })).symm
def GP(x:A5):List Abs:=B8 (x.kind) :: St (x.name) :: Abv x.old.1
def JO(x:A5):List Abs:=St (x.note) :: []
theorem Mw(x:A5):entC x=GP x++Abv x.new.1++JO x:=by simp[entC,GP,JO]
theorem QM(x:A5):(GP x).length=34:=by simp[GP,AbH,(x.old).2]
theorem Wv(x:A5)(v:B4):GP x++Abv v.1++JO x=entC ({ x with new:=v }):=(Mw ({ x with new:=v })).symm
theorem JP(x:A5):(entC x)[66]? =some (St (x.note)):=by
 unfold entC;show(Abv x.old.1++_)[32+32]? =_;rw[Mu x.old.2];show(Abv x.new.1++_)[32+0]? =_;rw[Mu x.new.2];rfl
theorem Ww(x:A5)(v:Bs):(entC x).set 66 (St (v))=entC ({ x with note:=v }):=by
 unfold entC;refine congrArg (AfL _) ?_;refine congrArg (AfL _) ?_;show(Abv x.old.1++_).set (32+32) _=_;rw[O8 x.old.2];refine congrArg (Abv x.old.1 ++ ·) ?_;show(Abv x.new.1++_).set (32+0) _=_;rw[O8 x.new.2];refine congrArg (Abv x.new.1 ++ ·) ?_;rfl
structure AF where
 name:Bs
 id:B4
def nmdC(x:AF):List Abs:=St (x.name) :: Abv x.id.1
theorem BB(x:AF):(nmdC x).length=33:=by simp[nmdC,AbH,(x.id).2]
theorem DE{x:AF}:∀u∈nmdC x,u.oneCell' =true:=by
 intro u hu;simp only[nmdC,Ab6,Acf,Acx,or_false]at hu;rcases hu with rfl | hu
 ·rfl
 ·exact Aw _ u hu
theorem EI(x:AF):(nmdC x)[0]? =some (St (x.name)):=by
 rfl
theorem Mx(x:AF):((nmdC x).drop 0).take 1= [St (x.name)]:=by
 exact W7 (EI x)
def JQ(x:AF):List Abs:=St (x.name) :: []
def QN(x:AF):List Abs:= []
theorem GQ(x:AF):nmdC x=JQ x++Abv x.id.1++QN x:=by simp[nmdC,JQ,QN]
theorem GR(x:AF):(JQ x).length=1:=by simp[JQ,AbH]
theorem JR(x:AF):((nmdC x).drop 1).take 32=Abv x.id.1:=by
 rw[GQ,AbV,<-GR x,List.drop_left,AcH (by rw[AbH,x.id.2])]
structure As where
 branches:List AF
 tags:List AF
 head:Bs
 at_:B4
 log:List A5
structure W8 where
 branches:Abs
 tags:Abs
 log:Abs
abbrev Ae:=As × W8
def refsC(x:Ae):List Abs:=x.2.branches :: x.2.tags :: St (x.1.head) :: (Abv x.1.at_.1++(x.2.log :: []))
theorem An(x:Ae):(refsC x).length=36:=by simp[refsC,AbH,(x.1.at_).2]
theorem A8{x:Ae}(h0:x.2.branches.oneCell' =true)(h1:x.2.tags.oneCell' =true)(h2:x.2.log.oneCell' =true):∀u∈refsC x,u.oneCell' =true:=by
 intro u hu;simp only[refsC,Ab6,Acf,Acx,or_false]at hu;rcases hu with rfl | rfl | rfl | hu | rfl
 ·exact h0
 ·exact h1
 ·rfl
 ·exact Aw _ u hu
 ·exact h2
theorem CH(x:Ae):(refsC x)[0]? =some (x.2.branches):=by
 rfl
theorem GS(x:Ae)(v:Abs)(l:List AF):(refsC x).set 0 (v)=refsC (({ x.1 with branches:=l },{ x.2 with branches:=v })):=by
 rfl
theorem Db(x:Ae):(refsC x)[1]? =some (x.2.tags):=by
 rfl
theorem GT(x:Ae)(v:Abs)(l:List AF):(refsC x).set 1 (v)=refsC (({ x.1 with tags:=l },{ x.2 with tags:=v })):=by
 rfl
theorem Ew(x:Ae):(refsC x)[2]? =some (St (x.1.head)):=by
 rfl
theorem KI(x:Ae)(v:Bs):(refsC x).set 2 (St (v))=refsC (({ x.1 with head:=v },x.2)):=by
 rfl
def Ex(x:Ae):List Abs:=x.2.branches :: x.2.tags :: St (x.1.head) :: []
def FK(x:Ae):List Abs:=x.2.log :: []
theorem DF(x:Ae):refsC x=Ex x++Abv x.1.at_.1++FK x:=by simp[refsC,Ex,FK]
theorem D4(x:Ae):(Ex x).length=3:=by simp[Ex,AbH]
theorem KJ(x:Ae)(v:B4):Ex x++Abv v.1++FK x=refsC (({ x.1 with at_:=v },x.2)):=(DF (({ x.1 with at_:=v },x.2))).symm
theorem BY(x:Ae):(refsC x)[35]? =some (x.2.log):=by
 unfold refsC;show(Abv x.1.at_.1++_)[32+0]? =_;rw[Mu x.1.at_.2];rfl
theorem FL(x:Ae)(v:Abs)(l:List A5):(refsC x).set 35 (v)=refsC (({ x.1 with log:=l },{ x.2 with log:=v })):=by
 unfold refsC;refine congrArg (AfL _) ?_;refine congrArg (AfL _) ?_;refine congrArg (AfL _) ?_;show(Abv x.1.at_.1++_).set (32+0) _=_;rw[O8 x.1.at_.2];refine congrArg (Abv x.1.at_.1 ++ ·) ?_;rfl
structure Rd where
 b:Bs
 at_:Int
structure XL where
 b:Abs
abbrev Dc:=Rd × XL
def BI(x:Dc):List Abs:=x.2.b :: .int .i64 (x.1.at_) :: []
theorem Ct(x:Dc):(BI x).length=2:=by simp[BI,AbH]
theorem B7(x:Dc):(BI x)[0]? =some (x.2.b):=by
 rfl
theorem BN(x:Dc):(BI x)[1]? =some (.int .i64 (x.1.at_)):=by
 rfl
theorem C7(x:Dc)(v:Int):(BI x).set 1 (.int .i64 (v))=BI (({ x.1 with at_:=v },x.2)):=by
 rfl
abbrev Az:Ax:=⟨0,[],zid,zid⟩
abbrev At:A5:=⟨0,[],zid,zid,[]⟩
abbrev dNmd:AF:=⟨[],zid⟩
open Go.ChangeShapes Go.WideShapes Go.ChangeAt Go.RowKit Go.Deep
section
variable {H : Type} (enc : Abz × Abs -> H) (P : AbN) (W : Abt)
def Opn{α:Type}(t:Abz)(f:α->List Abs)(OK:α->Prop):Prop:=
 ∀fuel cs (x:DataW H × List MemPlace),DataW.trod enc P W 0 (fun _=>true) true fuel t cs=some x->∃a,cs=f a/\OK a
end
section
variable {H : Type} {enc : Abz × Abs -> H} {P : AbN} {W : Abt}
theorem Opn.u8{t:Abz}(ht:P.underlying t=some (.int .u8)):Opn enc P W t (fun b:UInt8=> [B8 b]) (fun _=>True):=fun fuel cs x h=>by
 obtain⟨n,rfl,-,hw⟩:=DataW.trod_int ht h;have hb:0<=n/\n<=255:=by simpa [Lit.wf,IntKind.min,IntKind.max,AeC,Adv] using hw
 refine⟨UInt8.ofNat n.toNat,?_,trivial⟩
 congr 2
 simp;omega
theorem Aap{t:Abz}(ht:P.underlying t=some .string):Opn enc P W t (fun l:Bs=> [St l]) (fun l=>l.length<=9223372036854775807):=fun fuel cs x h=>by
 obtain⟨s,rfl,-,hs⟩:=DataW.trod_string ht h;refine⟨s.data.toList,by simp,?_⟩;have:s.data.size<=9223372036854775807:=Abw hs (by decide)
 simpa using this
theorem Opn.id{t e:Abz}(ht:P.underlying t=some (.array 32 e))(he:P.underlying e=some (.int .u8))(hc:P.cellsOf e=1)(hn:P.cellsOf t=32):Opn enc P W t (fun b:B4=>Abv b.1) (fun _=>True):=fun fuel cs x h=>by
 obtain⟨l,hl,rfl⟩:=S1 ht he hc hn h;exact⟨⟨l,hl⟩,rfl,trivial⟩
theorem K6{α:Type}{k:Nat}{f:α->List Abs}(d:α):∀(l:List α),(∀x∈l,(f x).length=k)->∀i r,r<k->i<l.length->(l.flatMap f)[i*k+r]? =(f (l.getD i d))[r]?
 | [],_,i,r,_,hi=>by cases hi
 | a :: l,h,0,r,hr,_=>by
  rw[Acl,Ad1,Adc,AcM (by rw[h a (by simp)];exact hr)];rfl
 | a :: l,h,i+1,r,hr,hi=>by
  have ha:=h a (by simp);rw[Acl,AcC (by rw[ha,AcN];omega),ha,show(i+1)*k+r-k=i*k+r by rw[AcN];omega];exact K6 d l (fun x hx=>h x (by simp[hx])) i r hr (by simpa using hi)
theorem H5{α:Type}{k:Nat}{f:α->List Abs}:∀(l:List α),(∀x∈l,(f x).length=k)->(l.flatMap f).length=l.length*k
 | [],_=>by simp
 | a :: l,h=>by rw[Acl,Aby,h a (by simp),H5 l (fun x hx=>h x (by simp[hx])),AbK,AcN];omega
theorem Opn.slice{α:Type}[Inhabited α]{k:Nat}{f:α->List Abs}{OK:α->Prop}{t e:Abz}(ht:P.underlying t=some (.slice e))(hc:P.cellsOf e=k)(hk:0<k)(hE:Opn enc P W e f OK)(hl:∀a,OK a->(f a).length=k):
  Opn enc P W t (fun v:Abs × List α=> [v.1]) (fun v=>RG k f W v.1 v.2/\∀a∈v.2,OK a):=fun fuel cs x h=>by
 rcases open_slice ht h with ⟨rfl,-⟩ | ⟨a,len,cap,m,n,D,Pl,rfl,-,h1,h2,h3,-,h4⟩
 ·exact⟨(_,[]),rfl,Abi _ _ _,fun a ha=>by cases ha⟩
 ·have hm:m=cap:=by simpa using h3
  obtain⟨L,hL⟩:=choose_lt (α:=α) (p:=fun i q=>W.cells? 0 (a.add (i*k)) k=some (f q)/\OK q) (fun i (hi:i<len)=>by
   obtain⟨cs',c1,c2⟩:=h4 i (by omega);obtain⟨q,rfl,hq⟩:=hE _ _ _ c2;rw[hc]at c1;exact⟨q,c1,hq⟩)
  have hall:∀x∈(AdC len).map L,(f x).length=k/\OK x:=fun x hx=>by
   obtain⟨i,hi,rfl⟩:=Acn.1 hx;have:=hL i (by simpa using hi);exact⟨hl _ this.2,this.2⟩
  have hlen:((AdC len).map L).length=len:=by simp
  refine⟨(.slice (some a) len cap,(AdC len).map L),rfl,⟨fun x hx=>(hall x hx).1,by rw[H5 _ (fun x hx=>(hall x hx).1)],some a,cap,by rw[hlen],by rw[hlen];exact h1,h2,(fun h=>by cases h),fun a' ha j u hu=> ?_⟩,fun x hx=>(hall x hx).2⟩;cases ha;have hj:j<len*k:=by
   have:=(AbW.1 hu).1
   rwa [H5 _ (fun x hx=>(hall x hx).1),hlen]at this
  have hi:j/k<len:=Nat.div_lt_of_lt_mul (by rw[Aft];exact hj);have hr:j%k<k:=Nat.mod_lt _ hk;have hjk:j/k*k+j%k=j:=by rw[Aft];exact Nat.div_add_mod j k
  rw[<-hjk,K6 default _ (fun x hx=>(hall x hx).1) _ _ hr (by rw[hlen];exact hi)]at hu;have hg:((AdC len).map L).getD (j/k) default=L (j/k):=by
   rw[AbA,List.getElem?_map,List.getElem?_range hi];rfl
  rw[hg]at hu;obtain⟨-,-,hcell⟩:=World.cells?_some (hL _ hi).1;have:=hcell (j%k) hr;rw[FQ,hjk,hu]at this;exact this
theorem XM{cs m:List Abs}{o k:Nat}(h:(cs.drop o).take k=m):cs.drop o=m++cs.drop (o+k):=by
 rw[<-h,<-List.drop_drop,List.take_append_drop]
theorem FF{t ty:Abz}{i o k fuel:Nat}{cs:List Abs}{x:DataW H × List MemPlace}{α:Type}{f:α->List Abs}{OK:α->Prop}(ht:P.underlying t=some (.struct (P.fieldsOf t)))(h:DataW.trod enc P W 0 (fun _=>true) true fuel t cs=some x) 
  (hf:((P.fieldsOf t)[i]?).map (fun f=>(f.type,f.offset))=some (ty,o)) (hk:P.cellsOf ty=k) (hE:Opn enc P W ty f OK):∃a,cs.drop o=f a++cs.drop (o+k)/\OK a:=by
 obtain⟨xs,n,-,-,-,hl,hx⟩:=DataW.trod_struct ht h;obtain⟨g,hg,he⟩:=Option.map_eq_some_iff.1 hf;have h1:=hx i g hg;cases he;have hi:i<xs.length:=by rw[hl];exact(Acg.1 hg).1
 rw[AbG hi,hk]at h1;obtain⟨a,h2,h3⟩:=hE _ _ _ h1;exact⟨a,XM h2,h3⟩
theorem O9{t:Abz}{fuel:Nat}{cs:List Abs}{x:DataW H × List MemPlace}(ht:P.underlying t=some (.struct (P.fieldsOf t)))(h:DataW.trod enc P W 0 (fun _=>true) true fuel t cs=some x):cs.length=P.cellsOf t:=by
 obtain⟨xs,n,-,-,hl,-,-⟩:=DataW.trod_struct ht h;exact hl
end
def Yp(P:AbN)(K:Abs->Abt->Prop)(J:List PanicEntry->Abt->Prop):Af3 Next->Prop
 | .ok (.value v) w=>K v w
 | .ok .skip w=>K undef w
 | .ok (.enter f args) w=>Calls P f args w fun e w' =>match e with | .returned v=>K v w' | .panicked ch=>J ch w' | .outgrown=>False
 | .halt (.panic v) w=>J [{ v,recovered:=false }] w
 | _=>False
section
variable {P : AbN} {n : Nat} {Q : Ba} {ρ : Ah} {w : Abt}
theorem Yp.ofK{K:Abs->Abt->Prop}{J:List PanicEntry->Abt->Prop}{r:Af3 Next}(h:Yk P K r):Yp P K J r:=by
 unfold Yk at h;split at h
 ·exact h
 ·exact h
 ·exact h.mono fun e w' hx=>by
   obtain⟨v,rfl,hk⟩:=hx;exact hk
 ·exact h.elim
theorem oP{ops:Array AbM}{rest:List AbM}{dst:Option Tmp}{op:Op}{ty:Abz}{pos:String}{af:Array Ack}(hd:(match dst with | some d=>Adh d n | none=>true)=true) 
  (h:Yp P (fun v w' =>BV P ops n Q rest (updO ρ dst v) w') (fun ch w' =>Q (.panic ch) ρ w') ((execOp (Ab ρ) ⟨dst,op,ty,pos,af,none⟩).run P w)):BV P ops n Q (⟨dst,op,ty,pos,af,none⟩ :: rest) ρ w:=by
 intro a ha;have hdn:∀t,dst=some t->t<n:=fun t ht=>by subst ht;exact AbF hd
 refine wpList_plain rfl fun K hK=> ?_;unfold AdJ AdV;rw[ha.eval];have hput:=fun v=>ha.put dst hdn v
 revert h
 generalize (execOp (Ab ρ) ⟨dst,op,ty,pos,af,none⟩).run P w=r
 intro h
 match r,h with
 | .ok (.value v) w',h=>exact hK _ _ (h _ (hput v))
 | .ok .skip w',h=>exact hK _ _ (h _ (hput undef))
 | .halt (.panic v) w',h=>exact⟨ρ,ha,h⟩
 | .ok (.enter f args) w',h=>
  refine Ado h ?_;intro e w'' hx
  match e,hx with
  | .returned v,hx=>exact hK _ _ (hx _ (hput v))
  | .panicked ch,hx=>exact⟨ρ,ha,hx⟩
theorem Yp.call{f:Ade}{args:Array AbD}{at_:Array Abz}{dst:Option Tmp}{ty:Abz}{pos:String}{af:Array Ack}{gd:Option (Nat × Bool)}{K:Abs->Abt->Prop}{J:List PanicEntry->Abt->Prop}(hp:Plain P f)(vs:List Abs)(hv:args.toList.map (Ab ρ)=vs) 
  (h:Calls P f vs.toArray w fun e w' =>match e with | .returned v=>K v w' | .panicked ch=>J ch w' | .outgrown=>False):Yp P K J ((execOp (Ab ρ) ⟨dst, .call ⟨.value (.func f),args,at_⟩,ty,pos,af,gd⟩).run P w):=by
 subst hv;have hr:=HP hp (Ab ρ) args.toList at_ dst ty pos af gd w rfl;rw[Array.toArray_toList]at hr;rw[hr];exact h
theorem Ao{f:Ade}{args:Array Abs}{K:Abs->Abt->Prop}{J:List PanicEntry->Abt->Prop}{A:Abs->Abt->Prop}{B:List PanicEntry->Abt->Prop}(h:Calls P f args w fun e w' =>(∃v,e = .returned v/\A v w')\/∃ch,e = .panicked ch/\B ch w') 
  (hA:∀v w',A v w' ->K v w') (hB:∀ch w',B ch w' ->J ch w'):Calls P f args w fun e w' =>match e with | .returned v=>K v w' | .panicked ch=>J ch w' | .outgrown=>False:=
 h.mono fun e w' hx=>by
  rcases hx with ⟨v,rfl,h1⟩ | ⟨ch,rfl,h1⟩
  ·exact hA v w' h1
  ·exact hB ch w' h1
theorem Yp.panic{dst:Option Tmp}{ty:Abz}{pos:String}{af:Array Ack}{gd:Option (Nat × Bool)}{K:Abs->Abt->Prop}{J:List PanicEntry->Abt->Prop}{x:AbD}{u:Abz}{v:Abs}(hx:Ab ρ x = .iface u v)(h:J [{ v:= .iface u v,recovered:=false }] w):
  Yp P K J ((execOp (Ab ρ) ⟨dst, .panic x,ty,pos,af,gd⟩).run P w):=by
 have hr:(execOp (Ab ρ) ⟨dst, .panic x,ty,pos,af,gd⟩).run P w = .halt (.panic (.iface u v)) w:=by
  simp[execOp,hx,Instr.panic,goPanic]
 rw[hr];exact h
section
variable {Q : Ba} {K : Ah -> Abt -> Prop} {ch : List PanicEntry}
theorem Gv(h:Q (.panic ch) ρ w):D3 K Q (.panic ch) ρ w:=h
theorem GU{i:Nat}(h:Q (.panic ch) ρ w):Cs i Q (.panic ch) ρ w:=h
end
def CX(P:AbN)(fn:AdT)(R:Adk->Abt->Prop):Ba
 | .normal,ρ,w | .ret,ρ,w=>∀tmps:Array Abs,(∀t,tmps.getD t undef=ρ t)->∃v,(results fn tmps).run P w = .ok v w/\R (.returned v) w
 | .panic ch,_,w=>R (.panicked ch) w
 | _,_,_=>False
theorem H7{f:Ade}{fn:AdT}{c:Ac7}{args:List Abs}{R:Adk->Abt->Prop}(hf:P.funcs[f]? =some fn)(hb:fn.body=some c)(m:Nat)(hm:fn.ntmps=m)(hn:args.length<=m) 
  (h:∀ρ,Begun args ρ->Cb P m c (CX P fn R) ρ w):Calls P f args.toArray w R:=by
 subst hm;refine calls_of_wp hf hb ?_;have hget:∀t,(args.toArray++Adg (fn.ntmps-args.toArray.size) undef).getD t undef=args.getD t undef:=fun t=>by
  simp only[Aci,AbA,Array.getElem?_append,Ab5,Acw];by_cases ht:t<args.length
  ·rw[if_pos ht]
  ·rw[if_neg ht,Ac4 (by omega),Adw];split <;> rfl
 refine wp_mono (h (fun t=>args.getD t undef) ⟨fun _=>rfl⟩ _ ⟨?_,rfl,hget⟩) ?_
 ·simp;omega
 ·rintro e a' w' ⟨ρ',hf',hQ⟩;have fin:(∀tmps:Array Abs,(∀t,tmps.getD t undef=ρ' t)->∃v,(results fn tmps).run P w' = .ok v w' /\R (.returned v) w')->a'.defers= []/\∃v,(results fn a'.tmps).run P w' = .ok v w' /\R (.returned v) w' :=
   fun h=>⟨hf'.defers,h a'.tmps hf'.get⟩
  cases e with
  | normal=>exact fin hQ
  | ret=>exact fin hQ
  | panic ch=>exact⟨hf'.defers,hQ⟩
  | exit _=>exact hQ.elim
  | goto _=>exact hQ.elim
  | outgrown=>exact hQ.elim
theorem Ey{fn:AdT}{R:Adk->Abt->Prop}(rs:List ResultVar)(hrs:fn.results=rs.toArray)(vs:List Abs)(v:Abs)(hv:HV vs=v)(h:GI P ρ w rs vs)(hR:R (.returned v) w):CX P fn R .ret ρ w:=
 fun _ ht=>⟨_,G8 hrs ht h,by rw[hv];exact hR⟩
theorem Gj{fn:AdT}{R:Adk->Abt->Prop}(rs:List ResultVar)(hrs:fn.results=rs.toArray)(vs:List Abs)(v:Abs)(hv:HV vs=v)(h:GI P ρ w rs vs)(hR:R (.returned v) w):CX P fn R .normal ρ w:=
 fun _ ht=>⟨_,G8 hrs ht h,by rw[hv];exact hR⟩
theorem Ap{fn:AdT}{R:Adk->Abt->Prop}{ch:List PanicEntry}(h:R (.panicked ch) w):CX P fn R (.panic ch) ρ w:=h
end
theorem Ai{G:Bool}{v x:Abs}(hx:x=cond G v undef)(h:G=true):x=v:=by rw[hx,h];rfl
theorem Bp{G:Bool}{v:Abs}(h:G=true):v=cond G v undef:=by rw[h];rfl
theorem Bq{G:Bool}{v:Abs}(h:G=false):undef=cond G v undef:=by rw[h];rfl
theorem Xw{G:Bool}{p:Prop}(h:G=false)(k:G=true):p:=by rw[h]at k;cases k
theorem Stab.may{R:Abt->Abt->Prop}{f:BJ}{p:Prop}(h:Stab R f):Stab R (fun x w=>p->f x w):=fun x w w' k r e=>h x w w' (k e) r
theorem FG{a b:Bool}(h:a=true)(k:b=true):(a&&b)=true:=by rw[h,k];rfl
theorem BO{a:Bool}(h:a=false):(!a)=true:=by rw[h];rfl
theorem W9{a:Bool}(h:(!a)=false):a=true:=by revert h;cases a <;> simp
theorem gA(a b:Bool):((a&&b)=true)=(a=true/\b=true):=propext (Bool.and_eq_true_iff)
theorem gB(a:Bool):((!a)=true)=(a=false):=propext (by cases a <;> simp)
theorem gC(a b:Bool):((a||b)=false)=(a=false/\b=false):=propext Bool.or_eq_false_iff
theorem gD(p:Prop)[Decidable p]:(decide p=true)=p:=propext decide_eq_true_iff
theorem gE(p:Prop)[Decidable p]:(decide p=false)=¬p:=propext decide_eq_false_iff_not
theorem Xa{a:Bool}(h:(!a)=true):a=false:=by revert h;cases a <;> simp
theorem gT{x:Abs}{c:Bool}(h:x = .bool c):c=true↔x = .bool true:=by
 subst h;exact⟨fun h=>by rw[h],fun h=>by injection h⟩
theorem gF{x:Abs}{c:Bool}(h:x = .bool c):(!c)=true↔x = .bool false:=by
 subst h;cases c <;> simp
theorem Fz{x:Abs}{E c:Bool}(h:x=cond E (.bool c) undef):(E&&c)=true↔x = .bool true:=by
 subst h;cases E <;> cases c <;> simp[undef]
theorem ET{x:Abs}{E c:Bool}(h:x=cond E (.bool c) undef):(E&& !c)=true↔x = .bool false:=by
 subst h;cases E <;> cases c <;> simp[undef]
theorem Pa{o:AbM}{ops:Array AbM}{T:Array Abs}{g d:Nat}{want:Bool}(hgd:o.guard=some (g,want))(hg:(ops[g]?).bind (·.dst)=some d)(h:T.getD d undef ≠ .bool want):AcB o (yielded ops T)=false:=by
 simp only[AcB,hgd,yielded,hg];rw[Aci]at h;cases hx:T[d]? with
 | none=>simp[hx]
 | some x=>
  rw[hx]at h;cases x <;> simp[hx]
  rename_i b
  intro hb;exact h (by simp[hb])
section
variable {P : AbN} {n : Nat} {Q : Ba} {ρ : Ah} {w : Abt} {K : Abs -> Abt -> Prop} {d : Option Tmp} {ty : Abz} {pos : String} {af : Array Ack} {gd : Option (Nat × Bool)}
theorem Yk.mono{K' :Abs->Abt->Prop}{r:Af3 Next}(h:Yk P K r)(hk:∀v w,K v w->K' v w):Yk P K' r:=by
 match r,h with
 | .ok (.value v) w,h=>exact hk _ _ h
 | .ok .skip w,h=>exact hk _ _ h
 | .ok (.enter f args) w,h=>exact Ado h (fun e w ⟨v,a,h⟩=>⟨v,a,hk _ _ h⟩)
abbrev Abd:=@Yk.mono
theorem H8{ops:Array AbM}{rest:List AbM}{dst:Option Tmp}{op:Op}{g:Nat}{want:Bool}{t:Tmp}{G:Bool}(R:Abs->Abt->Prop)(hd:(match dst with | some d=>Adh d n | none=>true)=true)(hg:(ops[g]?).bind (·.dst)=some t)(hG:G=true↔ρ t = .bool want) 
  (h1:G=true->Yk P R ((execOp (Ab ρ) ⟨dst,op,ty,pos,af,some (g,want)⟩).run P w))
  (h2:∀x w',(G=true->R x w')->(G=false->x=undef/\w' =w)->BV P ops n Q rest (updO ρ dst x) w'):BV P ops n Q (⟨dst,op,ty,pos,af,some (g,want)⟩ :: rest) ρ w:=by
 cases hb:G with
 | true=>
  refine oY hd hg (hG.1 hb) (Abd (h1 hb) ?_);intro x w' h;exact h2 x w' (fun _=>h) (fun e=>by rw[hb]at e;cases e)
 | false=>
  intro a ha;have hdn:∀t,dst=some t->t<n:=fun t ht=>by subst ht;exact AbF hd
  have hw:AcB ⟨dst,op,ty,pos,af,some (g,want)⟩ (yielded ops a.tmps)=false:=Pa rfl hg (fun e=>by
   have:=hG.2 ((ha.get t).symm.trans e);rw[hb]at this;cases this)
  refine wpList_step fun K hK=> ?_;rw[if_neg (by rw[hw];simp)];exact hK _ _ (h2 undef w (fun e=>by rw[hb]at e;cases e) (fun _=>⟨rfl,rfl⟩) _ (ha.put dst hdn undef))
theorem Af{ops:Array AbM}{rest:List AbM}{dst:Option Tmp}{op:Op}{g:Nat}{want:Bool}{t:Tmp}{G:Bool}(v:Abs)(hd:(match dst with | some d=>Adh d n | none=>true)=true)(hg:(ops[g]?).bind (·.dst)=some t)(hG:G=true↔ρ t = .bool want) 
  (h1:G=true->Yk P (fun x w' =>x=v/\w' =w) ((execOp (Ab ρ) ⟨dst,op,ty,pos,af,some (g,want)⟩).run P w))
  (h2:BV P ops n Q rest (updO ρ dst (cond G v undef)) w):BV P ops n Q (⟨dst,op,ty,pos,af,some (g,want)⟩ :: rest) ρ w:=by
 refine H8 _ hd hg hG h1 fun x w' k1 k2=> ?_;cases hb:G with
 | true=>obtain⟨rfl,rfl⟩:=k1 hb;rw[hb]at h2;exact h2
 | false=>obtain⟨rfl,rfl⟩:=k2 hb;rw[hb]at h2;exact h2
theorem Cc{ops:Array AbM}{rest:List AbM}{dst:Option Tmp}{op:Op}{g:Nat}{want:Bool}{t:Tmp}{G:Bool}(v:Abs)(hd:(match dst with | some d=>Adh d n | none=>true)=true)(hg:(ops[g]?).bind (·.dst)=some t)(hG:G=true↔ρ t = .bool want) 
  (h1:G=true->Yk P (fun x w' =>x=v/\Ext w w') ((execOp (Ab ρ) ⟨dst,op,ty,pos,af,some (g,want)⟩).run P w))
  (h2:∀w',Ext w w' ->BV P ops n Q rest (updO ρ dst (cond G v undef)) w'):BV P ops n Q (⟨dst,op,ty,pos,af,some (g,want)⟩ :: rest) ρ w:=by
 refine H8 _ hd hg hG h1 fun x w' k1 k2=> ?_;cases hb:G with
 | true=>obtain⟨rfl,h⟩:=k1 hb;have:=h2 _ h;rw[hb]at this;exact this
 | false=>obtain⟨rfl,rfl⟩:=k2 hb;have:=h2 _ (AaF _);rw[hb]at this;exact this
theorem QO{ops:Array AbM}{rest:List AbM}{dst:Option Tmp}{op:Op}{g:Nat}{want:Bool}{t:Tmp}{G:Bool}(R:Abs->Prop)(hd:(match dst with | some d=>Adh d n | none=>true)=true)(hg:(ops[g]?).bind (·.dst)=some t)(hG:G=true↔ρ t = .bool want) 
  (h1:G=true->Yk P (fun x w' =>R x/\w' =w) ((execOp (Ab ρ) ⟨dst,op,ty,pos,af,some (g,want)⟩).run P w))
  (h2:∀x,(G=true->R x)->BV P ops n Q rest (updO ρ dst x) w):BV P ops n Q (⟨dst,op,ty,pos,af,some (g,want)⟩ :: rest) ρ w:=by
 refine H8 _ hd hg hG h1 fun x w' k1 k2=> ?_;have e:w' =w:=by
  cases hb:G with
  | true=>exact(k1 hb).2
  | false=>exact(k2 hb).2
 subst e;exact h2 x (fun h=>(k1 h).1)
theorem Yz{c x y:AbD}{a b:Bool}(hc:Ab ρ c = .bool a)(hx:a=true->Ab ρ x = .bool b)(hy:Ab ρ y = .bool false)(hk:K (.bool (a&&b)) w):Yk P K ((execOp (Ab ρ) ⟨d, .pick c x y,ty,pos,af,gd⟩).run P w):=by
 cases a with
 | true=>exact Yl hc (hx rfl) hk
 | false=>exact Yy hc hy hk
theorem YE{c x y:AbD}{a b:Bool}(hc:Ab ρ c = .bool a)(hx:Ab ρ x = .bool true)(hy:a=false->Ab ρ y = .bool b)(hk:K (.bool (a||b)) w):Yk P K ((execOp (Ab ρ) ⟨d, .pick c x y,ty,pos,af,gd⟩).run P w):=by
 cases a with
 | true=>exact Yl hc hx hk
 | false=>exact Yy hc (hy rfl) hk
theorem Yd{c x y:AbD}{a b:Bool}(hc:Ab ρ c = .bool a)(hx:a=true->Ab ρ x = .bool b)(hy:Ab ρ y = .bool false)(hk:∀r,r=(a&&b)->K (.bool r) w):Yk P K ((execOp (Ab ρ) ⟨d, .pick c x y,ty,pos,af,gd⟩).run P w):=Yz hc hx hy (hk _ rfl)
theorem Ye{c x y:AbD}{a b:Bool}(hc:Ab ρ c = .bool a)(hx:Ab ρ x = .bool true)(hy:a=false->Ab ρ y = .bool b)(hk:∀r,r=(a||b)->K (.bool r) w):Yk P K ((execOp (Ab ρ) ⟨d, .pick c x y,ty,pos,af,gd⟩).run P w):=YE hc hx hy (hk _ rfl)
theorem DP{ops:Array AbM}{rest:List AbM}{dst:Option Tmp}{op:Op}{g:Nat}{want:Bool}{t:Tmp}{G:Bool}(e:Bool)(hd:(match dst with | some d=>Adh d n | none=>true)=true)(hg:(ops[g]?).bind (·.dst)=some t)(hG:G=true↔ρ t = .bool want) 
 (h1:G=true->Yk P (fun x w' =>x = .bool e/\w' =w) ((execOp (Ab ρ) ⟨dst,op,ty,pos,af,some (g,want)⟩).run P w))
 (h2:∀b,b=e->BV P ops n Q rest (updO ρ dst (cond G (.bool b) undef)) w):BV P ops n Q (⟨dst,op,ty,pos,af,some (g,want)⟩ :: rest) ρ w:=Af (.bool e) hd hg hG h1 (h2 _ rfl)
variable {l : List AbM} {Φ : Nat -> BJ}
theorem A0{C:Nat->Abt->Prop}{R:Nat->Abt->Abt->Prop}{k:Nat}{o:AbM}(g:Nat)(want:Bool)(t:Tmp){G:Bool}(hg:o.guard=some (g,want))(hd:(l[g]?).bind (·.dst)=some t) 
  (hv:∀x w,JG l Φ ρ k t x w->(G=true↔x = .bool want)) (hu:G=false->∀w,Φ k undef w)
  (h:G=true->∀σ w,C k w->(∀t∈o.looksAt l.toArray,JG l Φ ρ k t (σ t) w)->Yk P (fun v w' =>R k w w' /\Φ k v w') ((execOp (Ab σ) o).run P w)):O4 P l C R Φ ρ k o:=by
 intro σ w hC hl;have hin:t∈o.looksAt l.toArray:=by
  unfold Oper.looksAt;refine AcR _ ?_;rw[hg];simp[hd]
 have hq:=hv _ _ (hl t hin);cases hb:G with
 | true=>
  have:AX l o σ=true:=by
   unfold AX;rw[hg];simp only[hd,hq.1 hb];simp
  rw[if_pos this];exact h hb σ w hC hl
 | false=>
  have:AX l o σ=false:=by
   unfold AX;rw[hg];simp only[hd];cases hx:σ t <;> simp
   rename_i b
   intro e;have:=hq.2 (by rw[hx,e]);rw[hb]at this;cases this
  rw[if_neg (by rw[this];simp)];exact hu hb w
end
theorem Zx{P:AbN}{K K' :Abs->Abt->Prop}{J J' :List PanicEntry->Abt->Prop}{r:Af3 Next}(h:Yp P K J r)(hm:∀v w,K v w->K' v w)(hj:∀c w,J c w->J' c w):Yp P K' J' r:=by
 match r,h with
 | .ok (.value v) w',h=>exact hm _ _ h
 | .ok .skip w',h=>exact hm _ _ h
 | .halt (.panic v) w',h=>exact hj _ _ h
 | .ok (.enter f args) w',h=>
  refine Ado h fun e w'' hx=> ?_
  match e,hx with
  | .returned v,hx=>exact hm _ _ hx
  | .panicked ch,hx=>exact hj _ _ hx
def Cx(l:List AbM)(i:Nat):Option Tmp:=l[i]?.bind (·.dst)
def U3:List Tmp->Bool
 | []=>true
 | a :: r=> !r.contains a&&U3 r
theorem AW{ρ:Ah}{d:Tmp}{v:Abs}:updO ρ (some d) v=Ms ρ d v:=rfl
theorem DQ{ρ:Ah}{d:Tmp}{v:Abs}:Ms ρ d v d=v:=by simp[Ms]
theorem Cu{ρ:Ah}{d t:Tmp}{v:Abs}(h:t≠d):Ms ρ d v t=ρ t:=by
 have:Ae4 t d=false:=by rw[<-Bool.not_eq_true,Nat.beq_eq];exact h
 simp[Ms,this]
theorem CY{ρ σ:Ah}{o:AbM}{ops:Array AbM}(hs:∀cs b,o.op ≠ .select cs b)(h:∀t∈o.looksAt ops,σ t=ρ t):execOp (Ab σ) o=execOp (Ab ρ) o:=
 execOp_congr o hs fun x hx=>by
  cases x with
  | tmp t=>exact h t (Aej _ (Afa.2 ⟨.tmp t,by simpa using hx,rfl⟩))
  | _=>rfl
section
variable {P : AbN} {n : Nat} {ρ : Ah} {w : Abt} {Q : Ba} {l : List AbM} {fs : List (Nat × Tmp × Abs)} {cs : List Nat} {I : Abt -> Prop}
theorem H9{a:Act}{o:AbM}{K:Act->Abt->Prop}{Q' :Aei->Act->Abt->Prop}(h:Yk P (fun v w' =>K (a.put o.dst v) w') ((execOp a.eval o).run P w)):o.wp P a w K Q' :=by
 unfold AdJ AdV
 revert h
 generalize (execOp a.eval o).run P w=r
 intro h
 match r,h with
 | .ok (.value v) w',h=>exact h
 | .ok .skip w',h=>exact h
 | .ok (.enter f args) w',h=>
  refine Ado h ?_;rintro e w'' ⟨v,rfl,hk⟩;exact hk
theorem L8{a:Act}{o:AbM}{K:Act->Abt->Prop}{Q' :Aei->Act->Abt->Prop}{J:List PanicEntry->Abt->Prop}(h:Yp P (fun v w' =>K (a.put o.dst v) w') J ((execOp a.eval o).run P w))(hJ:∀ch w',J ch w' ->Q' (.panic ch) a w'):o.wp P a w K Q' :=by
 unfold AdJ AdV
 revert h
 generalize (execOp a.eval o).run P w=r
 intro h
 match r,h with
 | .ok (.value v) w',h=>exact h
 | .ok .skip w',h=>exact h
 | .halt (.panic v) w',h=>exact hJ _ _ h
 | .ok (.enter f args) w',h=>
  refine Ado h ?_;intro e w'' hx
  match e,hx with
  | .returned v,hx=>exact hx
  | .panicked ch,hx=>exact hJ _ _ hx
theorem Ia:∀ {l:List Tmp},U3 l=true->l.Nodup
 | [],_=>List.nodup_nil
 | a :: r,h=>by
  unfold U3 at h;rw[AbY]at h;refine AcI.2 ⟨fun hm=> ?_,Ia h.2⟩;have:=h.1;rw[AcJ.2 hm]at this;cases this
end
def looksL(l:List AbM)(j:Nat):List Tmp:=match l[j]? with
 | some q=>q.looksAt l.toArray
 | none=> []
def DA(l:List AbM)(j:Nat):Bool:=match l[j]? with
 | some q=>q.guard.isSome
 | none=>true
def C8(l:List AbM)(pf:List Nat)(j:Nat):Bool:=pf.contains j||(match l[j]? with
 | some q=>(match q.op with | .move _ | .assign _=>true | _=>false)
 | none=>false)
def Pb(l:List AbM)(m:List Nat)(cs pf fl pre:List Nat)(i:Nat):Bool:=match l[i]? with
 | none=>false
 | some o=>
  (match o.op with | .select .. =>false | _=>true) &&
  ((AdC l.length).all (fun j=> !(m.getD i 0).testBit j||pre.contains j) &&
  (pre.all (fun j=> !cs.contains j||(m.getD i 0).testBit j) &&
  ((!cs.contains i||pre.all fun j=>cs.contains j||(C8 l pf j||(fl.contains j||(m.getD i 0).testBit j))) &&
  ((pre.all fun j=>(cs.contains j&& !DA l j)||((cs.contains i&&(o.guard.isNone&&(m.getD i 0).testBit j))||(match o.dst with | some d=> !(looksL l j).contains d&&Cx l j != some d | none=>true))) &&
  ((cs.contains i&&o.guard.isNone)||(match o.dst with | some d=> !(o.looksAt l.toArray).contains d | none=>cs.contains i))))))
def JS(l:List AbM)(m:List Nat)(cs pf fl:List Nat):List Nat->List Nat->Bool
 | _,[]=>true
 | pre,i :: r=>Pb l m cs pf fl pre i&&JS l m cs pf fl (i :: pre) r
def EJ(l:List AbM)(cs pf fl ord:List Nat):Bool:=U3 ord&&((AdC l.length).all (fun i=>ord.contains i)&&JS l (AY l []) cs pf fl [] ord)
def Pc(l:List AbM)(fl r:List Nat)(i:Nat):Bool:=fl.all fun j=>r.contains j||((AY l []).getD i 0).testBit j
def KK(l:List AbM)(pf fl:List Nat)(I:Abt->Prop)(w:Abt)(i:Nat)(w' :Abt):Prop:=C8 l pf i=true\/(if i∈fl then I w' else w' =w)
def Do(P:AbN)(l:List AbM)(cs pf fl:List Nat)(J:List PanicEntry->Abt->Prop)(K:Ah->Abt->Prop):List Nat->(Abt->Prop)->Ah->Abt->Prop
 | [],_,ρ,w=>K ρ w
 | i :: r,I,ρ,w=>match l[i]? with
  | none=>False
  | some o=>if AX l o ρ=false then Do P l cs pf fl J K r I (updO ρ o.dst undef) w
   else if i∈cs then Yp P (fun v w' =>∃I' :Abt->Prop,I' w' /\((∀x,I' x->I x)\/Pc l fl r i=true)/\Do P l cs pf fl J K r I' (updO ρ o.dst v) w') J ((execOp (Ab ρ) o).run P w)
   else ∃v,(∀w',KK l pf fl I w i w' ->Yk P (fun x w'' =>x=v/\w'' =w') ((execOp (Ab ρ) o).run P w'))/\Do P l cs pf fl J K r I (updO ρ o.dst v) w
structure MixAt (l : List AbM) (cs pf fl u : List Nat) (i : Nat) (o : AbM) : Prop where
 sel:∀cs b,o.op ≠ .select cs b
 lin:∀j,j<l.length->((AY l []).getD i 0).testBit j=true->j∈u
 chain:∀j∈u,j∈cs->((AY l []).getD i 0).testBit j=true
 loc:i∈cs->∀j∈u,j∉cs->C8 l pf j=true\/j∈fl\/((AY l []).getD i 0).testBit j=true
 sep:∀j∈u,j∉cs\/DA l j=true->i∉cs\/DA l i=true\/((AY l []).getD i 0).testBit j=false->∀d,o.dst=some d->d∉looksL l j/\Cx l j≠some d
 own:i∉cs\/o.guard.isSome=true->∀d,o.dst=some d->d∉o.looksAt l.toArray
 has:i∉cs->∃d,o.dst=some d
theorem Vp{l:List AbM}{cs pf fl u:List Nat}{i:Nat}(h:Pb l (AY l []) cs pf fl u i=true):∃o,l[i]? =some o/\MixAt l cs pf fl u i o:=by
 unfold Pb at h;cases ho:l[i]? with
 | none=>rw[ho]at h;cases h
 | some o=>
  rw[ho]at h;simp only[AbY]at h;obtain⟨h1,h2,h3,h4,h5,h6⟩:=h;refine⟨o,rfl,⟨fun c b e=> ?_,fun j hj hb=> ?_,fun j hj hc=> ?_,fun hi j hj hc=> ?_,fun j hj hc hx d hd=> ?_,fun hi d hd=> ?_,fun hi=> ?_⟩⟩
  ·rw[e]at h1;cases h1
  ·have:=Acr.1 h2 j (by simpa using hj);rw[hb]at this
   simpa using this
  ·have:=Acr.1 h3 j hj;rw[AcJ.2 hc]at this
   simpa using this
  ·rw[AcJ.2 hi]at h4;have h4:∀x,x∈u->x∈cs\/C8 l pf x=true\/x∈fl\/((AY l [])[i]?.getD 0).testBit x=true:=by simpa using h4
   have:=h4 j hj
   simpa [hc] using this
  ·have:=Acr.1 h5 j hj;rw[hd]at this;have hf:(cs.contains j&& !DA l j)=false:=by
    rcases hc with hc | hc
    ·have:cs.contains j=false:=by simpa using hc
     rw[this];rfl
    ·rw[hc];simp
   have hf2:(cs.contains i&&(o.guard.isNone&&((AY l []).getD i 0).testBit j))=false:=by
    rcases hx with hx | hx | hx
    ·have:cs.contains i=false:=by simpa using hx
     rw[this];rfl
    ·unfold DA at hx;rw[ho]at hx;cases hg:o.guard with
     | none=>simp only[hg]at hx;cases hx
     | some g=>simp
    ·rw[hx];simp
   rw[hf,hf2]at this
   simpa using this
  ·have hf:(cs.contains i&&o.guard.isNone)=false:=by
    rcases hi with hi | hi
    ·have:cs.contains i=false:=by simpa using hi
     rw[this];rfl
    ·cases hg:o.guard with
     | none=>rw[hg]at hi;cases hi
     | some g=>simp
   rw[hf,hd]at h6
   simpa using h6
  ·have hf:cs.contains i=false:=by simpa using hi
   rw[hf]at h6;cases hd:o.dst with
   | none=>rw[hd]at h6;simp at h6
   | some d=>exact⟨d,rfl⟩
theorem K7{l:List AbM}{m cs pf fl:List Nat}:∀ {pre:List Nat} (u:List Nat) {i:Nat} {v:List Nat},JS l m cs pf fl pre (u++i :: v)=true->Pb l m cs pf fl (u.reverse++pre) i=true
 | pre,[],i,v,h=>by
  unfold JS at h;rw[Acd,AbY]at h;exact h.1
 | pre,x :: u,i,v,h=>by
  rw[Ab2]at h;unfold JS at h;rw[AbY]at h;have:=K7 u h.2
  simpa using this
theorem MixAt.perm{l:List AbM}{cs pf fl u v:List Nat}{i:Nat}{o:AbM}(e:∀x,x∈u↔x∈v)(h:MixAt l cs pf fl u i o):MixAt l cs pf fl v i o:=
 ⟨h.sel,fun j a b=>(e j).1 (h.lin j a b),fun j a=>h.chain j ((e j).2 a),fun a j b=>h.loc a j ((e j).2 b),fun j a=>h.sep j ((e j).2 a),h.own,h.has⟩
theorem DR{l:List AbM}{cs pf fl u v:List Nat}{i:Nat}(h:EJ l cs pf fl (u++i :: v)=true):∃o,l[i]? =some o/\MixAt l cs pf fl u i o:=by
 unfold EJ at h;rw[AbY,AbY]at h;obtain⟨o,ho,k⟩:=Vp (K7 u h.2.2);exact⟨o,ho,k.perm (by simp)⟩
theorem En{l:List AbM}{o:AbM}{ρ σ:Ah}(h:∀t∈o.looksAt l.toArray,σ t=ρ t):AX l o σ=AX l o ρ:=by
 unfold AX;cases hg:o.guard with
 | none=>rfl
 | some g=>
  obtain⟨g,want⟩:=g;simp only;cases hd:(l[g]?).bind (·.dst)with
  | none=>rfl
  | some t=>
   simp only;rw[h t (by
    unfold Oper.looksAt;refine AcR _ ?_;rw[hg];simp[hd])]
theorem My{a b:List Nat}{x:Nat}(h:(a++b).Nodup)(ha:x∈a)(hb:x∈b):False:=(Adz.1 h).2.2 x ha x hb rfl
theorem NU{a b c d:List Nat}{x:Nat}(h:(a++x :: b).Nodup)(e:a++x :: b=c++x :: d):a=c:=by
 induction a generalizing c with
 | nil=>
  cases c with
  | nil=>rfl
  | cons y c=>
   simp only[Acd,Ab2,List.cons.injEq]at e;obtain⟨rfl,e⟩:=e;rw[Acd]at h;exact absurd (by rw[e];simp) (AcI.1 h).1
 | cons y a ih=>
  cases c with
  | nil=>
   simp only[Acd,Ab2,List.cons.injEq]at e;obtain⟨rfl,e⟩:=e;rw[Ab2]at h;exact absurd (by simp) (AcI.1 h).1
  | cons z c=>
   simp only[Ab2,List.cons.injEq]at e;obtain⟨rfl,e⟩:=e;rw[Ab2]at h;rw[ih (AcI.1 h).2 e]
section
variable {P : AbN} {n : Nat} {ρ : Ah} {w : Abt} {Q : Ba} {l : List AbM} {cs pf fl ord : List Nat} {I : Abt -> Prop} {J : List PanicEntry -> Abt -> Prop} {K : Ah -> Abt -> Prop}
def Pend(P:AbN)(l:List AbM)(cs pf fl:List Nat)(I:Abt->Prop)(ρ:Ah)(w:Abt)(i:Nat):Prop:=
 ∃o,l[i]? =some o/\(i∉cs\/DA l i=true)/\(∀d,o.dst=some d->d∉o.looksAt l.toArray)/\(∀cs b,o.op ≠ .select cs b) /\
  (AX l o ρ=false/\(∀d,o.dst=some d->ρ d=undef) \/
   AX l o ρ=true/\i∉cs/\∃d,o.dst=some d/\∀w',KK l pf fl I w i w' ->Yk P (fun x w'' =>x=ρ d/\w'' =w') ((execOp (Ab ρ) o).run P w'))
theorem Pend.upd{ρ' :Ah}{i:Nat}(h:Pend P l cs pf fl I ρ w i)(hl:∀t∈looksL l i,ρ' t=ρ t)(hd:∀t,Cx l i=some t->ρ' t=ρ t):Pend P l cs pf fl I ρ' w i:=by
 obtain⟨o,ho,h1,h2,h3,h4⟩:=h;have hl' :∀t∈o.looksAt l.toArray,ρ' t=ρ t:=fun t ht=>hl t (by unfold looksL;rw[ho];exact ht);have hd' :∀t,o.dst=some t->ρ' t=ρ t:=fun t ht=>hd t (by unfold Cx;rw[ho];exact ht);refine⟨o,ho,h1,h2,h3,?_⟩;rw[En hl'];rcases h4 with ⟨a,b⟩ | ⟨a,b,d,hd0,c⟩
 ·exact .inl ⟨a,fun d hd0=>(hd' d hd0).trans (b d hd0)⟩
 ·refine .inr ⟨a,b,d,hd0,?_⟩;rw[hd' d hd0,CY h3 hl'];exact c
structure MInv (P : AbN) (l : List AbM) (cs pf fl ord : List Nat) (n : Nat) (J : List PanicEntry -> Abt -> Prop) (K : Ah -> Abt -> Prop) (u r : List Nat) (I : Abt -> Prop) (ρ : Ah) (listed : Array Bool) (a : Act) (w : Abt) : Prop where
 size:listed.size=l.length
 closed:∀i o,l[i]? =some o->On listed i->∀e∈o.after,AcA .any e=true->On listed e.on
 tmps:a.tmps.size=n
 defers:a.defers= []
 split:ord=u++r
 rest:∀i∈r,¬On listed i
 pend:∀i∈u,¬On listed i->Pend P l cs pf fl I ρ w i
 agree:∀t,(∀i∈u,¬On listed i->Cx l i≠some t)->a.tmps.getD t undef=ρ t
 holds:I w
 run:Do P l cs pf fl J K r I ρ w
theorem MInv.place(hb:EJ l cs pf fl ord=true){listed:Array Bool}{a:Act}:∀(r u:List Nat) (ρ:Ah),MInv P l cs pf fl ord n J K u r I ρ listed a w ->
  ∃u' r' ρ',MInv P l cs pf fl ord n J K u' r' I ρ' listed a w/\(r' = []\/∃c q o,r' =c :: q/\c∈cs/\l[c]? =some o/\AX l o ρ' =true)
 | [],u,ρ,h=>⟨u,[],ρ,h, .inl rfl⟩
 | i :: r,u,ρ,h=>by
  obtain⟨o,ho,hm⟩:=DR (h.split▸hb);have hrun:=h.run;unfold Do at hrun;rw[ho]at hrun;simp only at hrun;have hno:¬On listed i:=h.rest i (by simp);have next:∀(v:Abs),(i∉cs\/DA l i=true)->(∀d,o.dst=some d->d∉o.looksAt l.toArray)->Pend P l cs pf fl I (updO ρ o.dst v) w i->Do P l cs pf fl J K r I (updO ρ o.dst v) w->MInv P l cs pf fl ord n J K (u++ [i]) r I (updO ρ o.dst v) listed a w:=fun v hg hown hp hr=>by
   have hne:∀t,o.dst≠some t->updO ρ o.dst v t=ρ t:=fun t ht=>by
    cases hd:o.dst with
    | none=>rfl
    | some d=>rw[AW,Cu (fun e=>ht (by rw[hd,e]))]
   refine⟨h.size,h.closed,h.tmps,h.defers,by rw[h.split];simp,fun j hj=>h.rest j (by simp[hj]),fun j hj hnj=> ?_,fun t ht=> ?_,h.holds,hr⟩
   ·rcases Acf.1 hj with hj | hj
    ·have hpj:=h.pend j hj hnj;obtain⟨oj,hoj,hcj,-⟩:=hpj;have hg' :i∉cs\/DA l i=true\/((AY l []).getD i 0).testBit j=false:=hg.elim .inl fun x=> .inr (.inl x);refine(h.pend j hj hnj).upd (fun t ht=>hne t fun e=>(hm.sep j hj hcj hg' t e).1 ht) fun t ht=>hne t fun e=>(hm.sep j hj hcj hg' t e).2 ht
    ·rw[Ab9.1 hj];exact hp
   ·have h1:=h.agree t fun j hj=>ht j (by simp[hj]);rw[h1,hne t fun e=>ht i (by simp) hno (by unfold Cx;rw[ho];exact e)]
  by_cases hw:AX l o ρ=false
  ·rw[if_pos hw]at hrun;have hgs:o.guard.isSome=true:=by
    cases hg:o.guard with
    | none=>unfold AX at hw;rw[hg]at hw;cases hw
    | some g=>rfl
   have hgb:DA l i=true:=by unfold DA;rw[ho];exact hgs
   have hown:=hm.own (.inr hgs);refine MInv.place hb r (u++ [i]) _ (next undef (.inr hgb) hown ⟨o,ho, .inr hgb,hown,hm.sel, .inl ⟨?_,fun d hd=>by rw[hd,AW,DQ]⟩⟩ hrun);rw[<-hw];refine En fun t ht=> ?_;cases hd:o.dst with
   | none=>rfl
   | some d=>rw[AW,Cu (fun e=>hown d hd (by rw[<-e];exact ht))]
  ·rw[if_neg hw]at hrun;have hwt:AX l o ρ=true:=by simpa using hw
   by_cases hc:i∈cs
   ·exact⟨u,i :: r,ρ,h, .inr ⟨i,r,o,rfl,hc,ho,hwt⟩⟩
   ·rw[if_neg hc]at hrun;obtain⟨v,hv,hrun⟩:=hrun;have hown:=hm.own (.inl hc);obtain⟨d,hd⟩:=hm.has hc;have hag:∀t∈o.looksAt l.toArray,updO ρ o.dst v t=ρ t:=fun t ht=>by rw[hd,AW,Cu (fun e=>hown d hd (by rw[<-e];exact ht))]
    refine MInv.place hb r (u++ [i]) _ (next v (.inl hc) hown ⟨o,ho, .inl hc,hown,hm.sel, .inr ⟨by rw[En hag];exact hwt,hc,d,hd,?_⟩⟩ hrun);rw[CY hm.sel hag];intro w' hw';rw[show updO ρ o.dst v d=v by rw[hd,AW,DQ]];exact hv w' hw'
theorem OA(hg:DJ l n=true)(hb:EJ l cs pf fl ord=true):
  ∀(fuel:Nat) (listed:Array Bool) (a:Act) (w:Abt) (u r:List Nat) (I:Abt->Prop) (ρ:Ah),(listed.toList.filter (!·)).length=fuel->MInv P l cs pf fl ord n (fun ch w' =>∀ρ',Q (.panic ch) ρ' w') (fun ρ w=>Q .normal ρ w) u r I ρ listed a w->(r= []\/∃c q o,r=c :: q/\c∈cs/\l[c]? =some o/\AX l o ρ=true) ->
   wpAny P .any l.toArray (fun e a' w' =>∃ρ',Fits n ρ' a' /\Q e ρ' w') fuel listed a w:=by
 have g:=IF hg;have hall:∀i,i<l.length->i∈ord:=fun i hi=>by
  unfold EJ at hb;rw[AbY,AbY]at hb
  simpa using Acr.1 hb.2.1 i (by simpa using hi)
 have hnd:ord.Nodup:=by
  unfold EJ at hb;rw[AbY]at hb;exact Ia hb.1
 have hlt:∀(i:Nat) (o:AbM),l[i]? =some o->i<l.length:=fun i o ho=>(AbW.1 ho).1
 -- all are done
 have fin:∀(listed:Array Bool) (a:Act) (w:Abt) (u r:List Nat) (I:Abt->Prop) (ρ:Ah),MInv P l cs pf fl ord n (fun ch w' =>∀ρ',Q (.panic ch) ρ' w') (fun ρ w=>Q .normal ρ w) u r I ρ listed a w->(r= []\/∃c q o,r=c :: q/\c∈cs/\l[c]? =some o/\AX l o ρ=true)->(∀i,i<l.length->On listed i)->∃ρ',Fits n ρ' a/\Q .normal ρ' w:=fun listed a w u r I ρ h hr hon=>by
  rcases hr with rfl | ⟨c,q,o,rfl,-,ho,-⟩
  ·refine⟨ρ,⟨h.tmps,h.defers,fun t=>h.agree t fun i hi hni=> ?_⟩,h.run⟩;obtain⟨o,ho,-⟩:=h.pend i hi hni;exact absurd (hon i (hlt i o ho)) hni
  ·exact absurd (hon c (hlt c o ho)) (h.rest c (by simp))
 intro fuel
 induction fuel with
 | zero=>
  intro listed a w u r I ρ hfu h hr;have full:∀i,i<l.length->On listed i:=fun i hi=>by
   have:=FD _ hfu i (by rw[AcZ,h.size];omega);unfold On;simp at this;simp[this]
  refine⟨?_,fin listed a w u r I ρ h hr full⟩;cases hrd:AdE .any l.toArray listed with
  | nil=>rfl
  | cons x xs=>
   exfalso;have hmem:x∈AdE .any l.toArray listed:=by rw[hrd];simp
   obtain⟨h1,o,ho,_⟩:=mem_ready.1 hmem;have hx:x<l.length:=by simpa using (Acg.1 ho).1
   have h2:=full x hx;have hx' :x<listed.size:=h2.lt;unfold On at h2;simp[hx']at h1 h2;rw[h1]at h2;cases h2
 | succ fuel ih=>
  intro listed a w u r I ρ hfu h hr;refine⟨fun hrd=>fin listed a w u r I ρ h hr fun i=> ?_,fun i hi=> ?_⟩
  ·induction i using AeS with
   | _ i ih2=>
    intro hi;refine Classical.byContradiction fun hno=> ?_;have ho:l[i]? =some l[i]:=AbG hi;have:i∈AdE .any l.toArray listed:=by
     refine mem_ready.2 ⟨?_,l[i],by rw[Acw];exact ho,fun e he hb=> ?_⟩
     ·have hi' :i<listed.size:=by rw[h.size];exact hi
      unfold On at hno;simp[hi']at hno ⊢;exact hno
     ·have hlt:=g.back i _ ho e he hb;exact ih2 e.on hlt (by omega)
    rw[hrd]at this;cases this
  ·obtain⟨h1,o,ho,hall0⟩:=mem_ready.1 hi;have ho' :l[i]? =some o:=by simpa using ho
   have hilt:i<l.length:=hlt i o ho';have hil:i<listed.size:=by rw[h.size];exact hilt
   have hno:¬On listed i:=by
    unfold On;simp[hil]at h1 ⊢;exact h1
   have hball:∀e∈o.after,AcA .any e=true->On listed e.on:=fun e he hb=>hall0 e he hb;have hI:Inv l (fun _=> []) (fun _ _=>True) (fun _ _=>True) (fun _ _ _=>True) a listed a w:=
    ⟨h.size,h.closed,rfl,rfl,fun _ _ _=>trivial,trivial,fun _ _=>rfl,fun _ _ _ _ _ _ _ _=>trivial⟩
   have hmr:∀k,((AY l []).getD i 0).testBit k=true->On listed k:=fun k hk=>hI.maskReady ho' hball hk;have hcnt:((listed.setIfInBounds i true).toList.filter (!·)).length=fuel:=by
    rw[Aeq];have:=Gg listed.toList i (by
     simp[hil]at h1;simp[hil,h1])
    omega
   have hcl:∀j oj,l[j]? =some oj->On (listed.setIfInBounds i true) j->∀e∈oj.after,AcA .any e=true->On (listed.setIfInBounds i true) e.on:=fun j oj hj hon e he hb=>by
    rcases(AQ hil).1 hon with rfl | hon
    ·obtain rfl:o=oj:=by rw[ho']at hj;exact AbX hj
     exact(AQ hil).2 (.inr (hball e he hb))
    ·exact(AQ hil).2 (.inr (h.closed j oj hj hon e he hb))
   have hF:Fits n (fun t=>a.tmps.getD t undef) a:=⟨h.tmps,h.defers,fun t=>rfl⟩;have hroom:∀t,o.dst=some t->t<n:=fun t ht=>g.room i o t ho' ht;have hio:i∈ord:=hall i hilt;rw[h.split]at hio;have hun:∀j,¬On (listed.setIfInBounds i true) j->¬On listed j/\j≠i:=fun j hj=>⟨fun x=>hj ((AQ hil).2 (.inr x)),fun x=>hj ((AQ hil).2 (.inl x))⟩
   -- where it stands in the order
   have hwhere:∃u1 b,ord=u1++i :: b/\(i∈r->u1=u/\r=i :: b)/\(i∈u->∀j∈u,j∈u1\/j=i\/j∈b):=by
    by_cases hir:i∈r
    ·rcases hr with rfl | ⟨c,q,oc,rfl,hc,hoc,-⟩
     ·cases hir
     ·have:i=c:=by
       rcases Ab6.1 hir with x | x
       ·exact x
       ·exfalso;obtain⟨q1,q2,hq⟩:=Ac8 x;have hb' :=hb;rw[h.split,hq,show u++c :: (q1++i :: q2)=(u++c :: q1)++i :: q2 by simp]at hb';obtain⟨o2,f,hm⟩:=DR hb';exact h.rest c (by simp) (hmr c (hm.chain c (by simp) hc))
      subst this;exact⟨u,q,h.split,fun _=>⟨rfl,rfl⟩,fun _ j hj=> .inl hj⟩
    ·have hiu:i∈u:=(Acf.1 hio).elim id fun x=>absurd x hir;obtain⟨u1,s,hu⟩:=Ac8 hiu;exact⟨u1,s++r,by rw[h.split,hu];simp,fun x=>absurd x hir,fun _ j hj=>by rw[hu]at hj;simp at hj ⊢;rcases hj with x | x | x <;> simp[x]⟩
   obtain⟨u1,b,hord,hin,hiu1⟩:=hwhere;obtain⟨o2,f,hm⟩:=DR (hord▸hb);obtain rfl:o=o2:=by rw[ho']at f;exact AbX f
   -- what it looks at is as in the order that is walked
   have hlook:∀t∈o.looksAt l.toArray,a.tmps.getD t undef=ρ t:=fun t ht=>h.agree t fun q hq hnq e=>by
    obtain⟨oq,hoq,hcq,hownq,-⟩:=h.pend q hq hnq;have hdq:oq.dst=some t:=by unfold Cx at e;rw[hoq]at e;exact e
    rcases Nat.lt_trichotomy q i with hqi | hqi | hqi
    ·exact hnq (hmr q (g.tied i o q oq t ho' hoq hqi (.inl ⟨hdq,AcR _ ht⟩)))
    ·subst hqi;rw[ho']at hoq;cases hoq;exact hownq t hdq ht
    ·-- it is bound ahead of q, which stands behind it
     have hmq:=g.tied q oq i o t hoq ho' hqi (.inr ⟨hdq,AcR _ ht⟩);have hqo:q∈ord:=by rw[h.split];simp[hq]
     obtain⟨p1,p2,hp⟩:=Ac8 hqo;obtain⟨oq2,hoq2,hmq2⟩:=DR (hp▸hb);rw[hoq]at hoq2;cases hoq2;have hip:=hmq2.lin i hilt hmq;by_cases hic:i∈cs/\DA l i=false
     ·-- a chain's operation that has no guard and is still to come stands behind all that is walked
      have hir:i∈r:=(Acf.1 hio).elim (fun x=>by
       obtain⟨oi,hoi,hci,-⟩:=h.pend i x hno;rcases hci with y | y
       ·exact absurd hic.1 y
       ·rw[hic.2]at y;cases y) id
      obtain⟨z,-⟩:=hin hir;have hdis:i∉u:=fun x=>by
       have:=h.split▸hnd;exact My this x hir
      -- p1 lies within u
      obtain⟨s1,s2,hs⟩:=Ac8 hq;have m:p1=s1:=by
       have hx:p1++q :: p2=s1++q :: (s2++r):=by rw[<-hp,h.split,hs];simp
       exact NU (hp▸hnd) hx
      rw[m]at hip;exact hdis (by rw[hs];simp[hip])
     ·have:=(hmq2.sep i hip (by
       by_cases hx:i∈cs
       ·right;cases hy:DA l i with
        | true=>rfl
        | false=>exact absurd ⟨hx,hy⟩ hic
       ·exact .inl hx) (hcq.elim .inl fun x=> .inr (.inl x)) t hdq).1
      exact this (by unfold looksL;rw[ho'];exact ht)
   have hwa:AcB o (yielded l.toArray a.tmps)=AX l o ρ:=by
    rw[<-K5 a o,En hlook]
   unfold wpOp;simp only[Acw,ho'];by_cases hir:i∈r
   ·-- the chain's next operation
    obtain⟨rfl,m⟩:=hin hir;rcases hr with rfl | ⟨c,q,oc,rfl,hc,hoc,hwc⟩
    ·cases hir
    obtain⟨rfl,rfl⟩:c=i/\q=b:=by simpa using m
    rw[ho']at hoc;cases hoc;rw[hwa,hwc,if_pos rfl];have hrun:=h.run;unfold Do at hrun;rw[ho']at hrun;simp only at hrun;rw[if_neg (by rw[hwc];simp),if_pos hc]at hrun;refine .inl (L8 (J:=fun ch w' =>∀ρ',Q (.panic ch) ρ' w') ?_ fun ch w' h=>⟨_,hF,h _⟩);rw[hF.eval,CY (ρ:=ρ) hm.sel hlook];refine Zx hrun ?_ fun _ _ h=>h;rintro v w' ⟨I',hI',hII,hrun'⟩;have hne:∀t,o.dst≠some t->updO ρ o.dst v t=ρ t:=fun t ht=>by
     cases hd:o.dst with
     | none=>rfl
     | some d=>rw[AW,Cu (fun e=>ht (by rw[hd,e]))]
    have h0:MInv P l cs pf fl ord n (fun ch w' =>∀ρ',Q (.panic ch) ρ' w') (fun ρ w=>Q .normal ρ w) (u1++ [c]) q I' (updO ρ o.dst v) (listed.setIfInBounds c true) (a.put o.dst v) w' :=by
     refine⟨by simpa using h.size,hcl,(hF.put o.dst hroom _).size,(hF.put o.dst hroom _).defers,by rw[hord];simp,fun j hj hx=> ?_,fun j hj hnj=> ?_,fun t ht=> ?_,hI',hrun'⟩
     ·rcases(AQ hil).1 hx with rfl | hx
      ·have:=hord▸hnd;exact(AcI.1 (Adz.1 this).2.1).1 hj
      ·exact h.rest j (by simp[hj]) hx
     ·obtain⟨hnj,hjc⟩:=hun j hnj;have hju:j∈u1:=(Acf.1 hj).elim id fun x=>absurd (Ab9.1 x) hjc;obtain⟨oj,hoj,hcj,hownj,hselj,hpj⟩:=h.pend j hju hnj;have hup:Pend P l cs pf fl I' ρ w' j:=by
       refine⟨oj,hoj,hcj,hownj,hselj,?_⟩;rcases hpj with x | ⟨x1,x2,d,x3,x4⟩
       ·exact .inl x
       ·refine .inr ⟨x1,x2,d,x3,fun w2 hw2=> ?_⟩;rcases hm.loc hc j hju x2 with hjp | hjf | hjm
        ·exact x4 w2 (.inl hjp)
        ·refine x4 w2 (hw2.elim .inl fun hw2=> .inr ?_);rw[if_pos hjf]at hw2 ⊢;rcases hII with hII | hclr
         ·exact hII _ hw2
         ·exfalso;have:=Acr.1 hclr j hjf;rw[Ac6]at this;rcases this with y | y
          ·have hz:=hord▸hnd;have hy:j∈c :: q:=by simp at y;simp[y]
           exact My hz hju hy
          ·exact hnj (hmr j y)
        ·exact absurd (hmr j hjm) hnj
      have hmj:((AY l []).getD c 0).testBit j=false:=by
       cases hx:((AY l []).getD c 0).testBit j with
       | false=>rfl
       | true=>exact absurd (hmr j hx) hnj
      exact hup.upd (fun t ht=>hne t fun e=>(hm.sep j hju hcj (.inr (.inr hmj)) t e).1 ht) fun t ht=>hne t fun e=>(hm.sep j hju hcj (.inr (.inr hmj)) t e).2 ht
     ·rw[(hF.put o.dst hroom _).get t];have hag:(∀j∈u1,¬On listed j->Cx l j≠some t)->a.tmps.getD t undef=ρ t:=fun hx=>h.agree t hx;have hag' :=hag fun j hj hnj=>ht j (by simp[hj]) fun x=>by
       rcases(AQ hil).1 x with rfl | x
       ·have hz:=hord▸hnd;exact My hz hj (by simp)
       ·exact hnj x
      cases hd:o.dst with
      | none=>exact hag'
      | some d=>
       rw[AW,AW];by_cases e:t=d
       ·subst e;rw[DQ,DQ]
       ·rw[Cu e,Cu e];exact hag'
    obtain⟨u',r',ρ',hp,hr'⟩:=h0.place hb;exact ih _ _ _ u' r' I' ρ' hcnt hp hr'
   ·-- one that was walked
    have hiu:i∈u:=(Acf.1 hio).elim id fun x=>absurd x hir;obtain⟨o3,p,hci,hown,hsel,hp⟩:=h.pend i hiu hno;rw[ho']at p;cases p;have next:∀v,(∀d,o.dst=some d->v=ρ d)->wpAny P .any l.toArray (fun e a' w' =>∃ρ',Fits n ρ' a' /\Q e ρ' w') fuel (listed.setIfInBounds i true) (a.put o.dst v) w:=fun v hv=>by
     refine ih _ _ _ u r I ρ hcnt ⟨by simpa using h.size,hcl,(hF.put o.dst hroom _).size,(hF.put o.dst hroom _).defers,h.split,fun j hj hx=> ?_,fun j hj hnj=>h.pend j hj (hun j hnj).1,fun t ht=> ?_,h.holds,h.run⟩ hr
     ·rcases(AQ hil).1 hx with rfl | hx
      ·exact hir hj
      ·exact h.rest j hj hx
     ·rw[(hF.put o.dst hroom _).get t];by_cases e:o.dst=some t
      ·rw[e,AW,DQ];exact hv t e
      ·have hx:updO (fun t=>a.tmps.getD t undef) o.dst v t=a.tmps.getD t undef:=by
        cases hd:o.dst with
        | none=>rfl
        | some d=>rw[AW,Cu (fun x=>e (by rw[hd,x]))]
       rw[hx];refine h.agree t fun j hj hnj=> ?_;by_cases hji:j=i
       ·subst hji;unfold Cx;rw[ho'];exact e
       ·exact ht j hj fun x=>by
         rcases(AQ hil).1 x with x | x
         ·exact hji x
         ·exact hnj x
    rcases hp with ⟨x1,x2⟩ | ⟨x1,x2,d,x3,x4⟩
    ·rw[hwa,x1,if_neg (by simp)];exact next undef fun d hd=>(x2 d hd).symm
    ·rw[hwa,x1,if_pos rfl];refine .inl (H9 ?_);rw[hF.eval,CY (ρ:=ρ) hsel hlook];refine Abd (x4 w (.inr (by split <;> first | exact h.holds | rfl))) ?_;rintro v w' ⟨rfl,rfl⟩;exact next _ fun d' hd' =>by rw[x3]at hd';cases hd';rfl
end
def Never{α:Type}(x:Sem α):Prop:=∀(P:AbN) (w:Abt) (a:α) (w' :Abt),x.run P w ≠ .ok a w'
def Steady{α:Type}(x:Sem α):Prop:=∀(P:AbN) (w:Abt) (a:α) (w' :Abt),x.run P w = .ok a w' ->w' =w/\∀w2,x.run P w2 = .ok a w2
theorem Never.steady{α:Type}{x:Sem α}(h:Never x):Steady x:=fun P w a w' e=>absurd e (h P w a w')
theorem Steady.pure{α:Type}(a:α):Steady (Pure.pure a:Sem α):=fun P w b w' h=>by
 simp only[AbE,Result.ok.injEq]at h ⊢;exact⟨h.2.symm,fun _=>⟨h.1,trivial⟩⟩
abbrev Abh:=@Steady.pure
theorem Steady.bind{α β:Type}{x:Sem α}{f:α->Sem β}(hx:Steady x)(hf:∀a,Steady (f a)):Steady (x >>= f):=fun P w b w' h=>by
 rw[AbC]at h;cases hr:x.run P w with
 | ok a w1=>
  rw[hr,AbB]at h;obtain⟨rfl,h1⟩:=hx P w a w1 hr;obtain⟨rfl,h2⟩:=hf a P w1 b w' h;exact⟨rfl,fun w2=>by rw[AbC,h1 w2,AbB];exact h2 w2⟩
 | halt e w1=>rw[hr]at h;cases h
abbrev Aa3:=@Steady.bind
theorem Never.bind{α β:Type}{x:Sem α}{f:α->Sem β}(hf:∀a,Never (f a)):Never (x >>= f):=fun P w b w' h=>by
 rw[AbC]at h;cases hr:x.run P w with
 | ok a w1=>rw[hr,AbB]at h;exact hf a P w1 b w' h
 | halt e w1=>rw[hr]at h;cases h
abbrev Abj:=@Never.bind
theorem Never.halt{α:Type}(e:Halt):Never (Sem.halt e:Sem α):=fun P w a w' h=>by cases h
abbrev AaW:=@Never.halt
theorem CF{α:Type}(e:RuntimeError):Never (runtimePanic e:Sem α):=Abj fun p=>by
 cases e <;> first | exact AaW _ | exact Abj fun _=>Abj fun _=>AaW _
theorem Steady.program:Steady program:=fun P w a w' h=>by
 have h:AfI P w=AfI a w' :=h;cases h;exact⟨rfl,fun _=>rfl⟩
theorem Steady.underlying(t:Abz):Steady (underlying t):=Aa3 .program fun p=>by
 cases p.underlying t with
 | none=>exact(AaW _).steady
 | some d=>exact .pure d
abbrev Aa2:=@Steady.underlying
theorem Steady.sizeOf(t:Abz):Steady (sizeOf t):=Aa3 (Aa3 .program fun p=>by
 cases p.info? t with
 | none=>exact(AaW _).steady
 | some d=>exact .pure d) fun _=> .pure _
abbrev Abb:=@Steady.sizeOf
theorem Steady.asIntOf(v:Abs):Steady (asIntOf v):=by
 unfold Go.asIntOf;split
 ·exact .pure _
 ·exact(AaW _).steady
 ·exact(AaW _).steady
abbrev Aa8:=@Steady.asIntOf
theorem Steady.sureAddr(v:Abs):Steady (AdW v):=by
 unfold AdW;split
 ·exact .pure _
 ·exact(AaW _).steady
abbrev Aa6:=@Steady.sureAddr
theorem Steady.asAddr(v:Abs):Steady (asAddr v):=by
 unfold Go.asAddr;split
 all_goals first | exact .pure _ | exact(AaW _).steady | exact(CF _).steady
abbrev Abc:=@Steady.asAddr
theorem DS{α:Type}(k:AcG)(x y:Int)(c:BoundsCode):Never (boundsPanic k x y c:Sem α):=by
 unfold boundsPanic
 dsimp only
 split
 ·exact Abj fun s=>CF _
 ·exact Abj fun s=>CF _
theorem Steady.indexAt(t:Abz)(x i:Abs):Steady (Instr.indexAt t x i):=by
 unfold Instr.indexAt
 repeat' first
  | exact Abh _
  | exact(AaW _).steady
  | exact Aa2 _
  | exact Abb _
  | exact Aa8 _
  | exact Aa6 _
  | exact Abc _
  | exact(DS _ _ _ _).steady
  | exact(CF _).steady
  | refine Aa3 ?_ fun _=> ?_
  | split
  | dsimp only
theorem Steady.sliceBound(v:Abs)(n:Nat)(c:BoundsCode):Steady (Instr.sliceBound v n c):=by
 unfold Instr.sliceBound
 repeat' first
  | exact Abh _
  | exact(AaW _).steady
  | exact Aa2 _
  | exact Abb _
  | exact Aa8 _
  | exact Aa6 _
  | exact Abc _
  | exact(DS _ _ _ _).steady
  | exact(CF _).steady
  | refine Aa3 ?_ fun _=> ?_
  | split
  | dsimp only
theorem Steady.sliceBounds(b:Bool)(n c:Nat)(l h m:Option Abs):Steady (Instr.sliceBounds b n c l h m):=by
 unfold Instr.sliceBounds
 repeat' first
  | exact Abh _
  | exact(AaW _).steady
  | exact Aa2 _
  | exact Abb _
  | exact Aa8 _
  | exact Aa6 _
  | exact Abc _
  | exact(DS _ _ _ _).steady
  | exact(CF _).steady
  | exact Steady.sliceBound _ _ _
  | refine Aa3 ?_ fun _=> ?_
  | split
  | dsimp only
abbrev Abn:=@Steady.sliceBounds
theorem Steady.slice(t:Abz)(x:Abs)(l h m:Option Abs):Steady (Instr.slice t x l h m):=by
 unfold Instr.slice
 repeat' first
  | exact Abh _
  | exact(AaW _).steady
  | exact Aa2 _
  | exact Abb _
  | exact Aa8 _
  | exact Aa6 _
  | exact Abc _
  | exact(DS _ _ _ _).steady
  | exact(CF _).steady
  | exact Abn _ _ _ _ _ _
  | refine Aa3 ?_ fun _=> ?_
  | split
  | dsimp only
theorem Steady.sliceAt(t:Abz)(x:Abs)(l h m:Option Abs):Steady (AdM t x l h m):=by
 unfold AdM
 repeat' first
  | exact Abh _
  | exact(AaW _).steady
  | exact Aa2 _
  | exact Abb _
  | exact Aa8 _
  | exact Aa6 _
  | exact Abc _
  | exact(DS _ _ _ _).steady
  | exact(CF _).steady
  | exact Abn _ _ _ _ _ _
  | exact Steady.slice _ _ _ _ _
  | refine Aa3 ?_ fun _=> ?_
  | split
  | dsimp only
theorem K8{P:AbN}{K:Abs->Abt->Prop}{s:Sem Abs}{w:Abt}(hs:Steady s)(h:Yk P K ((do pure (Next.value (<-s)):Sem Next).run P w)):
  ∃v,K v w/\∀w',Yk P (fun x w'' =>x=v/\w'' =w') ((do pure (Next.value (<-s)):Sem Next).run P w'):=by
 rw[AbC]at h;cases hr:s.run P w with
 | ok a w1=>
  rw[hr,AbB,AbE]at h;obtain⟨rfl,h1⟩:=hs P w a w1 hr;exact⟨a,h,fun w' =>by rw[AbC,h1 w',AbB,AbE];exact⟨rfl,rfl⟩⟩
 | halt e w1=>rw[hr]at h;exact h.elim
inductive Fr where
 | seq (y:Ac7)
 | block (id:Nat)
 | scope
 | fin (K:Ah->Abt->Prop)
def B3(P:AbN)(n:Nat)(Q:Ba):List Fr->Ba
 | []=>fun e ρ w=>match e with
  | .normal=>Q .ret ρ w
  | e=>Q e ρ w
 | .seq y :: k=>D3 (Cb P n y (B3 P n Q k)) (B3 P n Q k)
 | .block id :: k=>Cs id (B3 P n Q k)
 | .scope :: k=>Ox (B3 P n Q k)
 | .fin K :: k=>D3 K (B3 P n Q k)
inductive Mz where
 | code (c:Ac7)
 | ops (a:Array AbM) (l:List AbM)
 | pop
 | mix (l:List AbM) (cs pf fl:List Nat) (I:Abt->Prop) (r:List Nat)
inductive MK where
 | pure
 | here
 | float
inductive Tg where
 | op (a:Array AbM) (o:AbM) (r:List AbM) (k:List Fr) (ρ:Ah)
 | code (c:Ac7) (k:List Fr) (ρ:Ah)
 | fin (K:Ah->Abt->Prop) (k:List Fr) (ρ:Ah)
 | chain (l:List AbM) (cs pf fl:List Nat) (I:Abt->Prop) (i:Nat) (o:AbM) (r:List Nat) (k:List Fr) (ρ:Ah)
 | still (κ:MK) (l:List AbM) (cs pf fl:List Nat) (I:Abt->Prop) (i:Nat) (o:AbM) (r:List Nat) (k:List Fr) (ρ:Ah)
 | ret (ρ:Ah)
 | bad
def room(n:Nat):Option Tmp->Bool
 | some d=>Adh d n
 | none=>true
def Xx:Bool->Bool->Bool
 | true,true=>true
 | false,false=>true
 | _,_=>false
def A2(n:Nat)(u:Bool):Nat->Mz->List Fr->Ah->Tg
 | 0,_,_,_=> .bad
 | f+1, .code c,k,ρ=>match c with
  | .seq x y=>A2 n u f (.code x) (.seq y :: k) ρ
  | .block id x=>A2 n u f (.code x) (.block id :: k) ρ
  | .scope x=>A2 n u f (.code x) (.scope :: k) ρ
  | .skip=>A2 n u f .pop k ρ
  | .ret=> .ret ρ
  | .exit id=>match k with
   | []=> .bad
   | .block i :: k=>cond (Ae4 id i) (A2 n u f .pop k ρ) (A2 n u f (.code (.exit id)) k ρ)
   | _ :: k=>A2 n u f (.code (.exit id)) k ρ
  | .region _ a d=>cond d (.code c k ρ) (A2 n u f (.ops a a.toList) k ρ)
  | c=> .code c k ρ
 | f+1, .pop,k,ρ=>match k with
  | []=> .ret ρ
  | .seq y :: k=>A2 n u f (.code y) k ρ
  | .fin K :: k=> .fin K k ρ
  | _ :: k=>A2 n u f .pop k ρ
 | f+1, .ops a l,k,ρ=>match l with
  | []=>A2 n u f .pop k ρ
  | o :: r=>cond (room n o.dst) (match o.guard with
   | some (g,want)=>cond u (match (a[g]?).bind (·.dst)with
    | some d=>match ρ d with
     | .bool b=>match Xx b want with
      | true=>match o.op with
       | .move x=>A2 n u f (.ops a r) k (updO ρ o.dst (Ab ρ x))
       | .assign x=>A2 n u f (.ops a r) k (updO ρ o.dst (Ab ρ x))
       | _=> .op a { o with guard:=none } r k ρ
      | false=>A2 n u f (.ops a r) k (updO ρ o.dst undef)
     | _=> .op a o r k ρ
    | none=> .op a o r k ρ) (.op a o r k ρ)
   | none=>match o.op with
    | .move x=>A2 n u f (.ops a r) k (updO ρ o.dst (Ab ρ x))
    | .assign x=>A2 n u f (.ops a r) k (updO ρ o.dst (Ab ρ x))
    | _=> .op a o r k ρ) .bad
 | f+1, .mix l cs pf fl I r,k,ρ=>match r with
  | []=>A2 n u f .pop k ρ
  | i :: r=>match l[i]? with
   | none=> .bad
   | some o=>cond (AX l o ρ) (cond (cs.contains i) (.chain l cs pf fl I i o r k ρ) (match o.op with
    | .move x=>A2 n u f (.mix l cs pf fl I r) k (updO ρ o.dst (Ab ρ x))
    | .assign x=>A2 n u f (.mix l cs pf fl I r) k (updO ρ o.dst (Ab ρ x))
    | _=> .still (cond (pf.contains i) .pure (cond (fl.contains i) .float .here)) l cs pf fl I i o r k ρ))
    (A2 n u f (.mix l cs pf fl I r) k (updO ρ o.dst undef))
def JK(P:AbN)(n:Nat)(Q:Ba)(k:List Fr)(ch:List PanicEntry)(w:Abt):Prop:=∀ρ,B3 P n Q k (.panic ch) ρ w
def MA(P:AbN)(n:Nat)(Q:Ba)(l:List AbM)(cs pf fl:List Nat)(I:Abt->Prop)(r:List Nat)(k:List Fr)(ρ:Ah)(w:Abt):Prop:=
 Do P l cs pf fl (JK P n Q k) (fun ρ w=>B3 P n Q k .normal ρ w) r I ρ w
def AT(P:AbN)(n:Nat)(_:Bool)(Q:Ba)(w:Abt):Tg->Prop
 | .op a o r k ρ=>room n o.dst=true->BV P a n (B3 P n Q k) (o :: r) ρ w
 | .code c k ρ=>Cb P n c (B3 P n Q k) ρ w
 | .fin K _ ρ=>K ρ w
 | .chain l cs pf fl I i o r k ρ=>l[i]? =some o->AX l o ρ=true->i∈cs->MA P n Q l cs pf fl I (i :: r) k ρ w
 | .still κ l cs pf fl I i o r k ρ=>l[i]? =some o->AX l o ρ=true->i∉cs->(match κ with | .pure=>C8 l pf i=true | .here=>C8 l pf i=false/\i∉fl | .float=>C8 l pf i=false/\i∈fl)->MA P n Q l cs pf fl I (i :: r) k ρ w
 | .ret ρ=>Q .ret ρ w
 | .bad=>False
def CmdOk(P:AbN)(n:Nat)(Q:Ba)(w:Abt)(k:List Fr)(ρ:Ah):Mz->Prop
 | .code (.exit i)=>B3 P n Q k (.exit i) ρ w
 | .code c=>Cb P n c (B3 P n Q k) ρ w
 | .ops a l=>BV P a n (B3 P n Q k) l ρ w
 | .pop=>B3 P n Q k .normal ρ w
 | .mix l cs pf fl I r=>MA P n Q l cs pf fl I r k ρ w
section
variable {P : AbN} {n : Nat} {u : Bool} {Q : Ba} {ρ : Ah} {w : Abt} {k : List Fr}
theorem Fc:∀ {d:Option Tmp},room n d=true->(match d with | some d=>Adh d n | none=>true)=true
 | some _,h=>h
 | none,_=>rfl
theorem CmdOk.wp{c:Ac7}(h:CmdOk P n Q w k ρ (.code c)):Cb P n c (B3 P n Q k) ρ w:=by
 cases c with
 | exit i=>exact S4 h
 | _=>exact h
theorem K9{Q:Ba}{a:Array AbM}{dst:Option Tmp}{op:Op}{ty:Abz}{pos:String}{af:Array Ack}{r:List AbM}{g:Nat}{want:Bool}{d:Tmp}(hg:(a[g]?).bind (·.dst)=some d)(hv:ρ d = .bool want) 
  (h:BV P a n Q (⟨dst,op,ty,pos,af,none⟩ :: r) ρ w):BV P a n Q (⟨dst,op,ty,pos,af,some (g,want)⟩ :: r) ρ w:=fun c hc=>by
 have h1:=h c hc;have hw:AcB ⟨dst,op,ty,pos,af,some (g,want)⟩ (yielded a c.tmps)=true:=by
  have:=HT ((hc.get d).trans hv);simp only[AcB,yielded,hg];simp[this]
 unfold wpList at h1 ⊢;rw[if_pos hw];exact h1
theorem Br:∀(f:Nat) (u:Bool) (c:Mz) (k:List Fr) (ρ:Ah),AT P n u Q w (A2 n u f c k ρ)->CmdOk P n Q w k ρ c
 | 0,u,c,k,ρ,h=>h.elim
 | f+1,u, .code c,k,ρ,h=>by
  match c,h with
  | .seq x y,h=>exact Oy (Br f u (.code x) (.seq y :: k) ρ h).wp
  | .block id x,h=>exact QD (Br f u (.code x) (.block id :: k) ρ h).wp
  | .scope x,h=>exact QE (Br f u (.code x) (.scope :: k) ρ h).wp
  | .skip,h=>exact FR (Br f u .pop k ρ h)
  | .ret,h=>
   have:∀k,B3 P n Q k .ret ρ w=Q .ret ρ w:=fun k=>by
    induction k with
    | nil=>rfl
    | cons x k ih=>cases x <;> exact ih
   exact Vk (by rw[this];exact h)
  | .exit id,h=>
   match k,h with
   | .block i :: k,h=>
    cases hb:Ae4 id i with
    | true=>
     obtain rfl:=Af4 hb;unfold A2 at h;simp only[hb,cond_true]at h;exact HY (Br f u .pop k ρ h)
    | false=>
     unfold A2 at h;simp only[hb,cond_false]at h;exact L6 hb (Br f u (.code (.exit id)) k ρ h)
   | .seq y :: k,h=>exact Br f u (.code (.exit id)) k ρ h
   | .scope :: k,h=>exact Br f u (.code (.exit id)) k ρ h
   | .fin K :: k,h=>exact Br f u (.code (.exit id)) k ρ h
  | .region id a d,h=>
   cases d with
   | true=>exact h
   | false=>exact wt (l:=a.toList) (Br f u (.ops a a.toList) k ρ h)
  | .cond ..,h=>exact h
  | .loop ..,h=>exact h
  | .rangeFunc ..,h=>exact h
  | .label ..,h=>exact h
  | .goto ..,h=>exact h
  | .refuse ..,h=>exact h
 | f+1,u, .pop,k,ρ,h=>by
  match k,h with
  | [],h=>exact h
  | .seq y :: k,h=>exact(Br f u (.code y) k ρ h).wp
  | .fin K :: k,h=>exact h
  | .block i :: k,h=>exact Br f u .pop k ρ h
  | .scope :: k,h=>exact Br f u .pop k ρ h
 | f+1,u, .ops a l,k,ρ,h=>by
  match l,h with
  | [],h=>exact oZ (Br f u .pop k ρ h)
  | o :: r,h=>
   cases hr:room n o.dst with
   | false=>unfold A2 at h;simp only[hr,cond_false]at h;exact h.elim
   | true=>
    unfold A2 at h;simp only[hr,cond_true]at h;obtain⟨dst,op,ty,pos,af,gd⟩:=o;cases gd with
    | some g=>
     obtain⟨g,want⟩:=g;cases u with
     | false=>exact h hr
     | true=>
      cases hg:(a[g]?).bind (·.dst)with
      | none=>simp only[hg,cond_true]at h;exact h hr
      | some d=>
       simp only[hg,cond_true]at h;cases hv:ρ d with
       | bool b=>
        simp only[hv]at h;cases hb:Xx b want with
        | true=>
         obtain rfl:b=want:=by cases b <;> cases want <;> first | rfl | cases hb
         simp only[hb]at h;refine K9 hg hv ?_;cases op with
         | move x=>exact oS (Fc hr) (AaM rfl (Br f true (.ops a r) k _ h))
         | assign x=>exact oS (Fc hr) (AaY rfl (Br f true (.ops a r) k _ h))
         | _=>exact h hr
        | false=>
         simp only[hb]at h;exact oN rfl (Fc hr) hg hv (by cases b <;> cases want <;> first | rfl | cases hb) (Br f true (.ops a r) k _ h)
       | _=>simp only[hv]at h;exact h hr
    | none=>
     cases op with
     | move x=>exact oS (Fc hr) (AaM rfl (Br f u (.ops a r) k _ h))
     | assign x=>exact oS (Fc hr) (AaY rfl (Br f u (.ops a r) k _ h))
     | _=>exact h hr
 | f+1,u, .mix l cs pf fl I r,k,ρ,h=>by
  match r,h with
  | [],h=>exact Br f u .pop k ρ h
  | i :: r,h=>
   cases ho:l[i]? with
   | none=>unfold A2 at h;simp only[ho]at h;exact h.elim
   | some o=>
    unfold A2 at h;simp only[ho]at h;cases hw:AX l o ρ with
    | false=>
     simp only[hw,cond_false]at h;show Do _ _ _ _ _ _ _ _ _ _ _;unfold Do;rw[ho];simp only;rw[if_pos hw];exact Br f u (.mix l cs pf fl I r) k _ h
    | true=>
     simp only[hw,cond_true]at h;cases hc:cs.contains i with
     | true=>simp only[hc,cond_true]at h;exact h ho hw (AcJ.1 hc)
     | false=>
      simp only[hc,cond_false]at h;have hc' :i∉cs:=fun x=>by rw[AcJ.2 x]at hc;cases hc
      have mv:∀(v:Abs),(∀w',Yk P (fun x w'' =>x=v/\w'' =w') ((execOp (Ab ρ) o).run P w'))->AT P n u Q w (A2 n u f (.mix l cs pf fl I r) k (updO ρ o.dst v))->MA P n Q l cs pf fl I (i :: r) k ρ w:=fun v hv h=>by
       show Do _ _ _ _ _ _ _ _ _ _ _;unfold Do;rw[ho];simp only;rw[if_neg (by rw[hw];simp),if_neg hc'];exact⟨v,fun w' _=>hv w',Br f u (.mix l cs pf fl I r) k _ h⟩
      have st:(match o.op with | .move _ | .assign _=>true | _=>false)=false->AT P n u Q w (.still (cond (pf.contains i) .pure (cond (fl.contains i) .float .here)) l cs pf fl I i o r k ρ)->MA P n Q l cs pf fl I (i :: r) k ρ w:=fun hm h=>by
       refine h ho hw hc' ?_;cases hp:pf.contains i with
       | true=>show C8 l pf i=true;unfold C8;rw[hp];rfl
       | false=>
        have hb:C8 l pf i=false:=by unfold C8;rw[hp,ho];exact hm
        cases hf:fl.contains i with
        | true=>exact⟨hb,AcJ.1 hf⟩
        | false=>exact⟨hb,fun x=>by rw[AcJ.2 x]at hf;cases hf⟩
      obtain⟨dst,op,ty,pos,af,gd⟩:=o;cases op with
      | move x=>exact mv _ (fun w' =>AaM rfl ⟨rfl,rfl⟩) h
      | assign x=>exact mv _ (fun w' =>AaY rfl ⟨rfl,rfl⟩) h
      | _=>exact st rfl h
theorem adv_ok{u:Bool}(f:Nat)(c:Mz)(k:List Fr)(ρ:Ah)(h:AT P n u Q w (A2 n u f c k ρ)):CmdOk P n Q w k ρ c:=Br f u c k ρ h
theorem E8{ch:List PanicEntry}(h:Q (.panic ch) ρ w):∀k,B3 P n Q k (.panic ch) ρ w
 | []=>h
 | x :: k=>by cases x <;> exact E8 h k
theorem gM{id:Nat}{l:List AbM}(ord cs pf fl:List Nat){I:Abt->Prop}(hm:P.follows .mixedOrders=true)(hg:DJ l n=true)(hb:EJ l cs pf fl ord=true)(hI:I w.drew) 
  (h:AT P n u Q w.drew (A2 n u 1000 (.mix l cs pf fl I ord) k ρ)):AT P n u Q w (.code (.region id l.toArray true) k ρ):=fun a ha=>by
 have h0:MInv P l cs pf fl ord n (JK P n Q k) (fun ρ w=>B3 P n Q k .normal ρ w) [] ord I ρ (Adg l.length false) a w.drew:=
  ⟨by simp,fun i o _ h=>absurd h Yv,ha.size,ha.defers,rfl,fun i _=>Yv,(fun i hi=>by cases hi),fun t _=>ha.get t,hI,adv_ok _ _ _ _ h⟩
 obtain⟨u',r',ρ',hp,hr⟩:=h0.place hb;exact wp_region_any hm (OA hg hb _ _ _ _ u' r' I ρ' (by simp) hp hr)
theorem gM0{id:Nat}{l:List AbM}(ord cs pf:List Nat)(h:∀w1,Ext w w1->AT P n u Q w1 (A2 n u 1000 (.mix l cs pf [] (fun _=>True) ord) k ρ))(hm:P.follows .mixedOrders=true:=by kernel_rfl)(hg:DJ l n=true:=by kernel_rfl)(hb:EJ l cs pf [] ord=true:=by kernel_rfl):AT P n u Q w (.code (.region id l.toArray true) k ρ):=
 gM ord cs pf [] hm hg hb trivial (h _ (Aco _ _).drew)
theorem FT{id:Nat}{l:List AbM}(ord cs pf fl:List Nat)(h:∀w1,Ext w w1->∃I:Abt->Prop,I w1/\AT P n u Q w1 (A2 n u 1000 (.mix l cs pf fl I ord) k ρ))(hm:P.follows .mixedOrders=true:=by kernel_rfl)(hg:DJ l n=true:=by kernel_rfl)(hb:EJ l cs pf fl ord=true:=by kernel_rfl):AT P n u Q w (.code (.region id l.toArray true) k ρ):=by
 obtain⟨I,hI,h⟩:=h _ (Aco _ _).drew;exact gM ord cs pf fl hm hg hb hI h
theorem QP{l:List AbM}{ord cs pf fl:List Nat}{g0:Nat}{o0:Obj}(b0:w.heap[g0]? =some o0)(h:AT P n u Q w (A2 n u 1000 (.mix l cs pf fl (fun w=>w.heap[g0]? =some o0/\True) ord) k ρ)):∃I:Abt->Prop,I w/\AT P n u Q w (A2 n u 1000 (.mix l cs pf fl I ord) k ρ):=⟨(fun w=>w.heap[g0]? =some o0/\True),⟨b0,trivial⟩,h⟩
theorem Gw{l:List AbM}{ord cs pf fl:List Nat}{x0:Abt}(a:Ext x0 w)(h:AT P n u Q w (A2 n u 1000 (.mix l cs pf fl (fun w=>Ext x0 w/\True) ord) k ρ)):∃I:Abt->Prop,I w/\AT P n u Q w (A2 n u 1000 (.mix l cs pf fl I ord) k ρ):=⟨(fun w=>Ext x0 w/\True),⟨a,trivial⟩,h⟩
section
variable {l : List AbM} {cs pf fl : List Nat} {I : Abt -> Prop} {i : Nat} {o : AbM} {r : List Nat} {κ : MK}
theorem EK{J:List PanicEntry->Abt->Prop}{K:Ah->Abt->Prop}(ho:l[i]? =some o)(hw:AX l o ρ=true)(hc:i∈cs) 
  (h:Yp P (fun v w' =>∃I' :Abt->Prop,I' w' /\((∀x,I' x->I x)\/Pc l fl r i=true)/\Do P l cs pf fl J K r I' (updO ρ o.dst v) w') J ((execOp (Ab ρ) o).run P w)):Do P l cs pf fl J K (i :: r) I ρ w:=by
 unfold Do;rw[ho];simp only;rw[if_neg (by rw[hw];simp),if_pos hc];exact h
theorem D5{J:List PanicEntry->Abt->Prop}{K:Ah->Abt->Prop}(ho:l[i]? =some o)(hw:AX l o ρ=true)(hc:i∉cs) 
  (v:Abs) (hv:∀w',KK l pf fl I w i w' ->Yk P (fun x w'' =>x=v/\w'' =w') ((execOp (Ab ρ) o).run P w')) (h:Do P l cs pf fl J K r I (updO ρ o.dst v) w):Do P l cs pf fl J K (i :: r) I ρ w:=by
 unfold Do;rw[ho];simp only;rw[if_neg (by rw[hw];simp),if_neg hc];exact⟨v,hv,h⟩
theorem zz{x:Abs}{w:Abt}:x=x/\w=w:=⟨rfl,rfl⟩
theorem yC(h:Yk P (fun v w' =>AT P n u Q w' (A2 n u 1000 (.mix l cs pf [] (fun _=>True) r) k (updO ρ o.dst v))) ((execOp (Ab ρ) o).run P w)):AT P n u Q w (.chain l cs pf [] I i o r k ρ):=fun ho hw hc=>
 EK ho hw hc (.ofK (Abd h fun _ _ h=>⟨fun _=>True,trivial, .inr rfl,adv_ok _ _ _ _ h⟩))
theorem OC{fn:AdT}{R:Adk->Abt->Prop}(h:Yp P (fun v w' =>AT P n u (CX P fn R) w' (A2 n u 1000 (.mix l cs pf [] (fun _=>True) r) k (updO ρ o.dst v))) (fun ch w' =>CX P fn R (.panic ch) ρ w') ((execOp (Ab ρ) o).run P w)):AT P n u (CX P fn R) w (.chain l cs pf [] I i o r k ρ):=fun ho hw hc=>
 EK ho hw hc (Zx h (fun _ _ h=>⟨fun _=>True,trivial, .inr rfl,adv_ok _ _ _ _ h⟩) fun _ _ h ρ' =>E8 (Ap (ρ:=ρ') h) _)
theorem yI(h:Yk P (fun v w' =>I w' /\AT P n u Q w' (A2 n u 1000 (.mix l cs pf fl I r) k (updO ρ o.dst v))) ((execOp (Ab ρ) o).run P w)):AT P n u Q w (.chain l cs pf fl I i o r k ρ):=fun ho hw hc=>
 EK ho hw hc (.ofK (Abd h fun _ _ h=>⟨I,h.1, .inl fun _ h=>h,adv_ok _ _ _ _ h.2⟩))
theorem yE{w1:Abt}(h:Yk P (fun v w' =>Ext w1 w' /\AT P n u Q w' (A2 n u 1000 (.mix l cs pf fl (fun x=>Ext w' x/\True) r) k (updO ρ o.dst v))) ((execOp (Ab ρ) o).run P w)):AT P n u Q w (.chain l cs pf fl (fun x=>Ext w1 x/\True) i o r k ρ):=fun ho hw hc=>
 EK ho hw hc (.ofK (Abd h fun _ w' h=>⟨fun x=>Ext w' x/\True,⟨AaF _,trivial⟩, .inl fun _ e=>⟨h.1.trans e.1,trivial⟩,adv_ok _ _ _ _ h.2⟩))
theorem yD(hc:Pc l fl r i=true)(h:Yk P (fun v w' =>AT P n u Q w' (A2 n u 1000 (.mix l cs pf fl (fun _=>True) r) k (updO ρ o.dst v))) ((execOp (Ab ρ) o).run P w)):AT P n u Q w (.chain l cs pf fl I i o r k ρ):=fun ho hw hi=>
 EK ho hw hi (.ofK (Abd h fun _ _ h=>⟨fun _=>True,trivial, .inr hc,adv_ok _ _ _ _ h⟩))
theorem ys{v:Abs}(h:Yk P (fun x w'' =>x=v/\w'' =w) ((execOp (Ab ρ) o).run P w))(hn:AT P n u Q w (A2 n u 1000 (.mix l cs pf fl I r) k (updO ρ o.dst v))):AT P n u Q w (.still .here l cs pf fl I i o r k ρ):=fun ho hw hc hf=>
 D5 ho hw hc v (fun w' hw' =>by
  rcases hw' with hp | hw'
  ·rw[hf.1]at hp;cases hp
  ·rw[if_neg hf.2]at hw';subst hw';exact h) (adv_ok _ _ _ _ hn)
theorem yp{v:Abs}(h:∀ {w' :Abt},Yk P (fun x w'' =>x=v/\w'' =w') ((execOp (Ab ρ) o).run P w'))(hn:AT P n u Q w (A2 n u 1000 (.mix l cs pf fl I r) k (updO ρ o.dst v))):AT P n u Q w (.still κ l cs pf fl I i o r k ρ):=fun ho hw hc _=>
 D5 ho hw hc v (fun _ _=>h) (adv_ok _ _ _ _ hn)
theorem yf{v:Abs}(h:∀w',I w' ->Yk P (fun x w'' =>x=v/\w'' =w') ((execOp (Ab ρ) o).run P w'))(hn:AT P n u Q w (A2 n u 1000 (.mix l cs pf fl I r) k (updO ρ o.dst v))):AT P n u Q w (.still .float l cs pf fl I i o r k ρ):=fun ho hw hc hf=>
 D5 ho hw hc v (fun w' hw' =>by
  rcases hw' with hp | hw'
  ·rw[hf.1]at hp;cases hp
  ·rw[if_pos hf.2]at hw';exact h w' hw') (adv_ok _ _ _ _ hn)
theorem yA{dst:Option Tmp}{t:Abz}{x y:AbD}{ty:Abz}{pos:String}{af:Array Ack}{gd:Option (Nat × Bool)}(h:Yk P (fun v _=>AT P n u Q w (A2 n u 1000 (.mix l cs pf fl I r) k (updO ρ dst v))) ((execOp (Ab ρ) ⟨dst, .indexAddr t x y,ty,pos,af,gd⟩).run P w)):AT P n u Q w (.still κ l cs pf fl I i ⟨dst, .indexAddr t x y,ty,pos,af,gd⟩ r k ρ):=fun ho hw hc _=>by
 obtain⟨v,hn,hv⟩:=K8 (.indexAt _ _ _) h;exact D5 ho hw hc v (fun w' _=>hv w') (adv_ok _ _ _ _ hn)
theorem yS{dst:Option Tmp}{t:Abz}{x:AbD}{lo hi mx:Option AbD}{ty:Abz}{pos:String}{af:Array Ack}{gd:Option (Nat × Bool)}(h:Yk P (fun v _=>AT P n u Q w (A2 n u 1000 (.mix l cs pf fl I r) k (updO ρ dst v))) ((execOp (Ab ρ) ⟨dst, .slice t x lo hi mx,ty,pos,af,gd⟩).run P w)):AT P n u Q w (.still κ l cs pf fl I i ⟨dst, .slice t x lo hi mx,ty,pos,af,gd⟩ r k ρ):=fun ho hw hc _=>by
 obtain⟨v,hn,hv⟩:=K8 (.sliceAt _ _ _ _ _) h;exact D5 ho hw hc v (fun w' _=>hv w') (adv_ok _ _ _ _ hn)
theorem yF{dst:Option Tmp}{s:Abz}{f off m:Nat}{x:AbD}{ty:Abz}{pos:String}{af:Array Ack}{gd:Option (Nat × Bool)}{xs:List Abs}(hf:AG P s f off)(hp:PR xs (Ab ρ x) w) 
  (hn:∀v,PR ((xs.drop off).take m) v w->AT P n u Q w (A2 n u 1000 (.mix l cs pf fl I r) k (updO ρ dst v))):AT P n u Q w (.still κ l cs pf fl I i ⟨dst, .fieldAddr s x f,ty,pos,af,gd⟩ r k ρ):=fun ho hw hc _=>by
 obtain⟨b,o,hx,hr⟩:=hp;refine D5 ho hw hc (.pointer (some ⟨b,o+off,none⟩)) (fun w' _=>AaE hf hx ⟨rfl,rfl⟩) (adv_ok _ _ _ _ (hn _ ⟨b,o+off,rfl,fun j v hv=> ?_⟩));rw[Adr]at hv;split at hv
 ·rw[AdG]at hv;have:=hr _ _ hv;rw[<-AdN]at this;exact this
 ·cases hv
end
theorem gS{a:Array AbM}{dst:Option Tmp}{op:Op}{ty:Abz}{pos:String}{af:Array Ack}{r:List AbM} 
  (h:Yk P (fun v w' =>AT P n u Q w' (A2 n u 1000 (.ops a r) k (updO ρ dst v))) ((execOp (Ab ρ) ⟨dst,op,ty,pos,af,none⟩).run P w)):AT P n u Q w (.op a ⟨dst,op,ty,pos,af,none⟩ r k ρ):=fun hr=>
 oS (Fc hr) (Abd h fun _ _ h=>adv_ok _ _ _ _ h)
theorem gP{a:Array AbM}{dst:Option Tmp}{op:Op}{ty:Abz}{pos:String}{af:Array Ack}{r:List AbM} 
  (h:Yp P (fun v w' =>AT P n u Q w' (A2 n u 1000 (.ops a r) k (updO ρ dst v))) (fun ch w' =>Q (.panic ch) ρ w') ((execOp (Ab ρ) ⟨dst,op,ty,pos,af,none⟩).run P w)):AT P n u Q w (.op a ⟨dst,op,ty,pos,af,none⟩ r k ρ):=fun hr=>by
 refine oP (Fc hr) ?_
 revert h
 generalize (execOp (Ab ρ) ⟨dst,op,ty,pos,af,none⟩).run P w=x
 intro h
 match x,h with
 | .ok (.value v) w',h=>exact adv_ok _ _ _ _ h
 | .ok .skip w',h=>exact adv_ok _ _ _ _ h
 | .halt (.panic v) w',h=>exact E8 h _
 | .ok (.enter f args) w',h=>
  refine Ado h ?_;intro e w'' hx
  match e,hx with
  | .returned v,hx=>exact adv_ok _ _ _ _ hx
  | .panicked ch,hx=>exact E8 hx _
theorem gY{a:Array AbM}{dst:Option Tmp}{op:Op}{ty:Abz}{pos:String}{af:Array Ack}{r:List AbM}{g:Nat}{want:Bool}{d:Tmp}(hg:(a[g]?).bind (·.dst)=some d)(hv:ρ d = .bool want) 
 (h:AT P n u Q w (A2 n u 1000 (.ops a (⟨dst,op,ty,pos,af,none⟩ :: r)) k ρ)):AT P n u Q w (.op a ⟨dst,op,ty,pos,af,some (g,want)⟩ r k ρ):=fun _=>K9 hg hv (adv_ok _ _ _ _ h)
theorem gN{a:Array AbM}{o:AbM}{r:List AbM}{g:Nat}{want b:Bool}{d:Tmp}(hgd:o.guard=some (g,want))(hg:(a[g]?).bind (·.dst)=some d)(hv:ρ d = .bool b)(hb:(b==want)=false) 
 (h:AT P n u Q w (A2 n u 1000 (.ops a r) k (updO ρ o.dst undef))):AT P n u Q w (.op a o r k ρ):=fun hr=>oN hgd (Fc hr) hg hv hb (adv_ok _ _ _ _ h)
theorem kB{f:Nat}{c:Mz}{d:Option Tmp}{b b' :Bool}(e:b=b')(h:AT P n u Q w (A2 n u f c k (updO ρ d (.bool b')))):AT P n u Q w (A2 n u f c k (updO ρ d (.bool b))):=e▸h
theorem kT{f:Nat}{c:Mz}{d:Option Tmp}{p:Prop}[Decidable p](e:p)(h:AT P n u Q w (A2 n u f c k (updO ρ d (.bool true)))):AT P n u Q w (A2 n u f c k (updO ρ d (.bool (decide p)))):=kB (decide_eq_true e) h
theorem kF{f:Nat}{c:Mz}{d:Option Tmp}{p:Prop}[Decidable p](e:¬p)(h:AT P n u Q w (A2 n u f c k (updO ρ d (.bool false)))):AT P n u Q w (A2 n u f c k (updO ρ d (.bool (decide p)))):=kB (decide_eq_false e) h
theorem gO{a:Array AbM}{o:AbM}{r:List AbM}(h:room n o.dst=true->BV P a n (B3 P n Q k) (o :: r) ρ w):AT P n u Q w (.op a o r k ρ):=h
theorem Av{a:Array AbM}{l:List AbM}(h:AT P n false Q w (A2 n false 1000 (.ops a l) k ρ)):BV P a n (B3 P n Q k) l ρ w:=adv_ok _ _ _ _ h
theorem gX(h:AT P n true Q w (A2 n true 1000 .pop k ρ)):B3 P n Q k .normal ρ w:=adv_ok _ _ _ _ h
theorem XN(h:AT P n false Q w (A2 n false 1000 .pop k ρ)):B3 P n Q k .normal ρ w:=adv_ok _ _ _ _ h
theorem gR{id:Nat}{a:Array AbM}(h:Cb P n (.region id a true) (B3 P n Q k) ρ w):AT P n u Q w (.code (.region id a true) k ρ):=h
theorem cT{c:AbD}{x y:Ac7}(hc:Ab ρ c = .bool true)(h:AT P n u Q w (A2 n u 1000 (.code x) k ρ)):AT P n u Q w (.code (.cond c x y) k ρ):=FS hc (adv_ok _ _ _ _ h).wp
theorem cF{c:AbD}{x y:Ac7}(hc:Ab ρ c = .bool false)(h:AT P n u Q w (A2 n u 1000 (.code y) k ρ)):AT P n u Q w (.code (.cond c x y) k ρ):=DN hc (adv_ok _ _ _ _ h).wp
theorem cD{c:AbD}{x y:Ac7}{p:Prop}[Decidable p](hc:Ab ρ c = .bool (decide p))(h1:p->AT P n u Q w (A2 n u 1000 (.code x) k ρ))(h2:¬p->AT P n u Q w (A2 n u 1000 (.code y) k ρ)):AT P n u Q w (.code (.cond c x y) k ρ):=
 S5 p hc (fun h=>(adv_ok _ _ _ _ (h1 h)).wp) fun h=>(adv_ok _ _ _ _ (h2 h)).wp
theorem cB{c:AbD}{x y:Ac7}(b:Bool)(hc:Ab ρ c = .bool b)(h1:b=true->AT P n u Q w (A2 n u 1000 (.code x) k ρ))(h2:b=false->AT P n u Q w (A2 n u 1000 (.code y) k ρ)):AT P n u Q w (.code (.cond c x y) k ρ):=
 QC b hc (fun h=>(adv_ok _ _ _ _ (h1 h)).wp) fun h=>(adv_ok _ _ _ _ (h2 h)).wp
theorem gL{c:Ac7}(I:Ah->Abt->Prop)(μ:Ah->Abt->Nat)(h0:I ρ w) 
  (round:∀ρ w,I ρ w->AT P n u Q w (A2 n u 1000 (.code c) (.fin (fun ρ' w' =>I ρ' w' /\μ ρ' w' <μ ρ w) :: k) ρ)):AT P n u Q w (.code (.loop c) k ρ):=
 S6 I μ h0 fun ρ w hI=>(adv_ok _ _ _ _ (round ρ w hI)).wp
theorem gK{K:Ah->Abt->Prop}(h:K ρ w):AT P n u Q w (.fin K k ρ):=h
def QS:Nat->List Fr->Option (Ac7 × List Fr)
 | 0, .seq y :: k=>some (y,k)
 | d+1,_ :: k=>QS d k
 | _,_=>none
theorem gJ{a:Array AbM}{o:AbM}{r:List AbM}(I:Ah->Abt->Prop)(d:Nat){y:Ac7}{k2:List Fr}(_:QS d k=some (y,k2))(hJ:∀ρ w,I ρ w->AT P n u Q w (A2 n u 1000 (.code y) k2 ρ)) 
 (h:(∀ρ w,I ρ w->AT P n u Q w (A2 n u 1000 (.code y) k2 ρ))->AT P n u Q w (.op a o r k ρ)):AT P n u Q w (.op a o r k ρ):=h hJ
def Mj(l:List Abs):Ah:=fun t=>l.getD t undef
theorem gG{f:Ade}{fn:AdT}{c:Ac7}{args:List Abs}{R:Adk->Abt->Prop}(hf:P.funcs[f]? =some fn)(hb:fn.body=some c)(m:Nat)(hm:fn.ntmps=m)(hn:Nat.ble args.length m=true) 
  (h:AT P m true (CX P fn R) w (A2 m true 1000 (.code c) [] (Mj args))):Calls P f args.toArray w R:=
 H7 hf hb m hm (AbF hn) fun ρ hB=>by
  obtain rfl:ρ=Mj args:=funext hB.get;refine wpF_mono (adv_ok _ _ _ _ h).wp fun e ρ w hx=> ?_;cases e <;> exact hx
theorem FU{f:Ade}{fn:AdT}{c:Ac7}{args:List Abs}{R:Adk->Abt->Prop}(hf:P.funcs[f]? =some fn)(hb:fn.body=some c)(m:Nat)(hm:fn.ntmps=m)(hn:Nat.ble args.length m=true) 
  (h:AT P m false (CX P fn R) w (A2 m false 1000 (.code c) [] (Mj args))):Calls P f args.toArray w R:=
 H7 hf hb m hm (AbF hn) fun ρ hB=>by
  obtain rfl:ρ=Mj args:=funext hB.get;refine wpF_mono (adv_ok _ _ _ _ h).wp fun e ρ w hx=> ?_;cases e <;> exact hx
theorem FV{fn:AdT}{R:Adk->Abt->Prop}(hrs:fn.results = #[])(hR:R (.returned (.tuple #[])) w):AT P n u (CX P fn R) w (.ret ρ):=Ey [] hrs [] _ rfl trivial hR
theorem AC{fn:AdT}{R:Adk->Abt->Prop}{t:Tmp}{v:Abs}(hrs:fn.results = #[.tmp t])(h:ρ t=v)(hR:R (.returned v) w):AT P n u (CX P fn R) w (.ret ρ):=Ey [.tmp t] hrs [v] v rfl ⟨h,trivial⟩ hR
theorem DB{fn:AdT}{R:Adk->Abt->Prop}{t t2:Tmp}{v x:Abs}(hrs:fn.results = #[.tmp t, .tmp t2])(h:ρ t=v)(hx:ρ t2=x)(hR:R (.returned (.tuple #[v,x])) w):AT P n u (CX P fn R) w (.ret ρ):=Ey [.tmp t, .tmp t2] hrs [v,x] _ rfl ⟨h,hx,trivial⟩ hR
theorem JT{fn:AdT}{R:Adk->Abt->Prop}{t t2 t3:Tmp}{v x z:Abs}(hrs:fn.results = #[.tmp t, .tmp t2, .tmp t3])(h:ρ t=v)(hx:ρ t2=x)(hz:ρ t3=z)(hR:R (.returned (.tuple #[v,x,z])) w):AT P n u (CX P fn R) w (.ret ρ):=Ey [.tmp t, .tmp t2, .tmp t3] hrs [v,x,z] _ rfl ⟨h,hx,hz,trivial⟩ hR
theorem GV{fn:AdT}{R:Adk->Abt->Prop}{r:ResultVar}{v:Abs}(hrs:fn.results = #[r])(h:ResF P ρ w r v)(hR:R (.returned v) w):AT P n u (CX P fn R) w (.ret ρ):=Ey [r] hrs [v] v rfl ⟨h,trivial⟩ hR
theorem U4{fn:AdT}{R:Adk->Abt->Prop}{r r2:ResultVar}{v x:Abs}(hrs:fn.results = #[r,r2])(h:ResF P ρ w r v)(hx:ResF P ρ w r2 x)(hR:R (.returned (.tuple #[v,x])) w):AT P n u (CX P fn R) w (.ret ρ):=Ey [r,r2] hrs [v,x] _ rfl ⟨h,hx,trivial⟩ hR
end
structure Ez {α : Type} (P : AbN) (t : Abz) (enc : α -> List Abs) : Prop where
 ty:∃fs,P.underlying t=some (.struct fs)
 sz:∀x,(P.info? t).map (·.size)=some (enc x).toArray.size
section
variable {P : AbN} {K : Abs -> Abt -> Prop} {ρ : Ah} {w : Abt} {d : Option Tmp} {ty : Abz} {pos : String} {af : Array Ack} {gd : Option (Nat × Bool)} {α : Type} {enc : α -> List Abs} {t : Abz} {p q : AbD} {g : Nat} {a b : α}
theorem Yg{fr:Nat × Nat}(hT:Ez P t enc)(hx:Ab ρ p = .pointer (some ⟨g,0,none⟩))(hg:w.heap[g]? =some (.cells (enc a).toArray t fr))(hk:K (.agg (enc a).toArray) w):Yk P K ((execOp (Ab ρ) ⟨d, .load t p,ty,pos,af,gd⟩).run P w):=by
 obtain⟨fs,h⟩:=hT.ty;exact Yu hx hg h rfl (hT.sz a) hk
theorem Ya(hT:Ez P t enc)(hx:Ab ρ p = .pointer (some ⟨g,0,none⟩))(hy:Ab ρ q = .agg (enc a).toArray)(hg:w.heap[g]? =some (.cells (enc b).toArray t (0,0)))(h1:∀v∈(enc a).toArray.toList,v.oneCell' =true) 
  (hk:∀w',w'.heap[g]? =some (.cells (enc a).toArray t (0,0))->w.grownBy w' (some g)->w'.heap.size=w.heap.size->K undef w'):Yk P K ((execOp (Ab ρ) ⟨d, .store t p q,ty,pos,af,gd⟩).run P w):=
 Yb hx hy hg (AbX ((hT.sz a).symm.trans (hT.sz b))) (hT.sz a) h1 hk
end
end Go.Proofs.YtbbbblinjomajaaGreatDoor
