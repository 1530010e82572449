/- Part 1 of what stands behind these statements: laws and walks of the functions that are reached. Conditions: those that each theorem names. -/
import Derived.WalkKit
import Derived.WalkLawsBesides
import Derived.WalkSpells
import Derived.Deep.AppendSrc
import Derived.Lib.Hide
import Derived.Lib.VarintMem
import Derived.ProofKit
import Derived.OpenShut
import Derived.ShutString
import Derived.JoinedCond
import Derived.Deep.DeepHandedRow
import Derived.Lay
import Derived.Stop.LaidErr
import Derived.Orders
import Derived.Below
import Derived.Laws.IdiomStrings
import Derived.Deep.MidRow
import Derived.Scope
import Derived.Laws.Rows
import Derived.Laws.StructEq
import Derived.Lib.EndianBits
import Derived.Lib.Walk
import Derived.Deep.Slices
import Derived.Recover
import Derived.Laws.RangeAny
import Derived.Lib.Varint
import Derived.DeepKeys4
import Derived.MapKept
import Derived.WideKeyEntry
import Derived.Lib.Bytealg
import Derived.Laws.Externs
import Derived.Lib.AppendZerosOnto
import Derived.Lib.Overlaps
import Derived.Lib.ConvBytes
import Derived.Lib.AtoiErrMem
import Derived.Sort.Walk0
import Derived.Maps.Own
import Derived.Maps.OwnSet
import Derived.Maps.Range
import Derived.Sort.KeysCollected
import Derived.Laws.IdiomRangeMap
import Derived.Shelf.SlMaps.Clone
import Derived.Shelf.SlIter.Nil
import Derived.Shelf.SortM.Plain
import Derived.Shelf.SortM.SortNone
import Derived.Laws.Small
import Derived.Shelf.Small.Strs
import Derived.Defers
import Derived.Test.YtbbbblinjomajaaGreatDoorRows
import Derived.Test.YtbbbblinjomajaaGreatDoorProg
set_option linter.unusedVariables false
set_option linter.unusedSimpArgs false
namespace Go.Proofs.YtbbbblinjomajaaGreatDoor
open _root_.Go renaming Value->Adr,World->Ads,Program->AdM,TypeId->Ady,Oper->AdL,Exit->Age,Operand->AdC,Result->Aig,Edge->Aej,FuncId->Afi,binOp->Aea,IntKind->AeI
open _root_.Go.Lib renaming byteCells->Adv,byteCells_append->Aij,byteCells_length->AdG,uvarint->AdU
open _root_.Array renaming getElem?_eq_some_iff->Aef,length_toList->AeN,getElem?_eq_none->Agf,getElem?_setIfInBounds_ne->Afz,getD_eq_getD_getElem?->Ad8,toList_setIfInBounds->AfQ,replicate->Afc,getElem?_replicate->Afm
open _root_.Option.some renaming inj->AdY,injEq->AeZ
open _root_.Nat renaming le_trans->Adu,add_mul->AeQ,mul_le_mul_right->AfU,add_zero->AgV,le_refl->Adw,strongRecOn->Agb,zero_add->Afa,min->Af9,beq->AgK,blt->Ae5,le_of_ble_eq_true->AdD,min_eq_left->Agc,mod_eq_of_lt->AgP,zero_mul->Af3,add_assoc->Afu,add_sub_cancel_left->AfE,mul_comm->AhB,ble->Ag8
open _root_.Go.World renaming grownBy_alloc->Aix,ownsRow_nil->Ae7,block_lt_of_cell?->AeD
open _root_.Go.Builtin renaming append_->Aga,zeroCells->Aer,len_->AiG
open _root_.List renaming length_append->Adx,size_toArray->Ad6,take_left->Ag5,eq_nil_of_length_eq_zero->Aep,length_take->AdS,length_drop->AdT,map_toArray->AdH,map_cons->AdK,map_nil->AdO,mem_map->Aeq,length_cons->AdJ,getElem?_eq_some_iff->AdR,getElem_mem->Ae3,getD->AhP,getElem?_eq_getElem->AdE,range->Afj,getElem?_eq_none->AeX,foldl_cons->AgD,getElem?_append_left->AeP,all_eq_true->Ael,mem_zipIdx_iff_getElem?->Ag6,mem_append_right->AeY,mem_append_left->Agr,getElem?_toArray->Aeh,getElem?_cons_succ->Af7,mem_eraseDups->Ahe,mem_filterMap->AgG,map_take->Ahh,getElem?_take->Afw,getElem?_drop->AfK,map_drop->Ais,mem_cons->Ad5,mem_cons_of_mem->AeF,range'->Aha,flatMap_cons->Aen,getElem?_append_right->AeC,getD_eq_getElem?_getD->Adz,mem_append->Aed,append_assoc->AdW,take_left'->AeJ,not_mem_nil->Aes,length_singleton->Ad4,cons->AhT,nodup_cons->AeL,contains_iff_mem->AeM,nil_append->Ad9,cons_append->Ad1,nodup_append->AfD,mem_singleton->Aeb,append_of_mem->Afe
open _root_.Go.Value renaming ownBlock->Aec
open _root_.Go.Addr renaming add_lit->Ae0,add->AfP
open _root_.Go.Oper renaming wp->AfG,upon->AfY
open _root_.Go.Sem renaming run_bind->AdB,run_pure->AdF
open _root_.Go.Result renaming andThen_ok->AdA,andThen->Aek,ok->AhQ
open _root_.Go.RowKit.Below renaming refl->Aeo
open _root_.Go.IntKind renaming min->Ah5,max->Ah6,signed->AfZ,bits->Afl,wrap->AiH
open _root_.Go.DataW renaming trod->Ahw,trod_int->Aif
open _root_.Go.Region renaming binds->Aeu,wanted->AeA,ready->AeV
open _root_.Bool renaming or_eq_true->AeH,and_eq_true->AdX,eq_iff_iff->AfN
open _root_.Go.Instr renaming storeAt->Agx,sureAddr->Af0,sliceAt->AfR,loadAt->AiF,buildSlice->Ad0
open _root_.Option renaming map_some->AeT,map_none->Afq
open _root_.Go.Calls renaming mono->Aft
open _root_.Go.Op renaming equal->Agg,maxDepth->AgO,equalIn->Afg,intCmp->Agq,stringOp->Ahb
open _root_.Int renaming toNat_natCast->AdV,fdiv_eq_ediv_of_nonneg->Ahi
open _root_.BitVec renaming ofNat->Af2,toNat_ofNat->AgH
abbrev Ai1:=List UInt8
open Go.RowKit
/-! Short names for what stands in the walks again and again. -/
abbrev PQ(b o:Nat):Adr:= .pointer (some ⟨b,o,none⟩)
abbrev St(l:Ai1):Adr:= .string ⟨l.toArray⟩
abbrev AB(l:Ai1):Adr:= .agg (Adv l).toArray
abbrev OB(v:Adr)(g:Nat):Prop:=v.ownBlock≠some g
theorem AJ{x v:Adr}(h:x=v):x=v:=h
theorem AO{a b n:Nat}(h:a<b)(e:b=n):a<n:=e▸h
theorem vr{x:Adr}(y:Adr)(h:x=y):x=y:=h
theorem bl{α:Type}{xs:Array α}{i:Nat}{o:α}(h:xs[i]? =some o):i<xs.size:=(Aef.1 h).1
theorem kb{w w' :Ads}{g n:Nat}{o:Obj}(hg:w.grownBy w' (some g))(hb:w.heap[n]? =some o)(h:n≠g):w'.heap[n]? =some o:=(hg.block n (bl hb) (fun e=>h (AdY e))).trans hb

structure Grew (w w' : Ads) (v v' : Adr) : Prop where
 by_:w.grownBy w' v.ownBlock
 fresh:∀k,v'.ownBlock=some k->v.ownBlock=some k\/w.heap.size<=k
theorem Aa{w w1 w2:Ads}{r r1:Option Nat}(h:w.grownBy w1 r)(k:w1.grownBy w2 r1)(hr:∀b,r1=some b->r=some b\/w.heap.size<=b):w.grownBy w2 r:=by
 refine⟨k.os.trans h.os,k.tape.trans h.tape,k.output.trans h.output,Adu h.size k.size,fun i hi hne=> ?_⟩;have h1:=h.size;rw[k.block i (by omega) (fun e=>(hr i e.symm).elim (fun h2=>hne h2.symm) (fun h2=>by omega)),h.block i hi hne]
theorem Grew.eqv{w w' :Ads}{x v v' :Adr}(e:x=v)(h:Grew w w' x v'):Grew w w' v v' :=e▸h
theorem Grew.refl(w:Ads)(v:Adr):Grew w w v v:=⟨World.grownBy.refl _ _,fun _ h=> .inl h⟩
abbrev Adp:=@Grew.refl
theorem Grew.trans{w w1 w2:Ads}{v a c:Adr}(h:Grew w w1 v a)(k:Grew w1 w2 a c):Grew w w2 v c:=
 ⟨Aa h.by_ k.by_ h.fresh,fun b hb=>by
  have h1:=h.by_.size;rcases k.fresh b hb with h2 | h2
  ·exact h.fresh b h2
  ·exact .inr (by omega)⟩
theorem Grew.alloc{w w1:Ads}{v a:Adr}(h:Grew w w1 v a)(o:Obj):Grew w (w1.alloc o) v a:=
 ⟨Aa h.by_ (Aix _ o none) (fun _ e=>by cases e),h.fresh⟩
theorem Grew.drew{w w1:Ads}{v a:Adr}(h:Grew w w1 v a):Grew w w1.drew v a:=
 ⟨⟨h.by_.os,h.by_.tape,h.by_.output,h.by_.size,h.by_.block⟩,h.fresh⟩
section
variable {P : AdM} (w : Ads)
theorem FD(base:Nat)(t tx ty e:Ady)(i:TypeInfo)(z:Adr)(size bytes:Nat)(ht:P.underlying t=some (.slice e))(hi:P.info? e=some i)(hz:i.zero=some z) 
  (hsize:i.size=size) (hby:i.bytes=bytes) (hzs:z.cells.size=size)
  (v:Adr) (n:Nat) (xs:List Adr) (hown:w.ownsRow base e size v n xs)
  (x:Adr) (m:Nat) (news:List Adr) (hs:Src P size tx x m news w)
  (h63:n+m<=maxLen) (hbytes:(n+m)*bytes<=140737488355328) (hbase:base<=w.heap.size):
  ∃v' w',(Aga #[t,tx] ty #[v,x]).run P w = .ok v' w' /\w'.ownsRow base e size v' (n+m) (xs++news)/\Grew w w' v v' :=by
 subst hsize;subst hby
 have hsmall:n+m<=9223372036854775807:=by simp only[maxLen]at h63;omega
 have hl:=hs.newsLen;have hlen:(xs++news).length=(n+m)*i.size:=by rw[Adx,hown.1,hl,AeQ]
 have grown:∀(old:Nat),old<n+m ->
   (w.drew.alloc (.cells ((xs++news).toArray++Aer z.cells (grownCap w (n+m) old e-(n+m))) e)).ownsRow base e i.size
    (.slice (some ⟨w.heap.size,0,none⟩) (n+m) (grownCap w (n+m) old e)) (n+m) (xs++news) /\
   Grew w (w.drew.alloc (.cells ((xs++news).toArray++Aer z.cells (grownCap w (n+m) old e-(n+m))) e)) v (.slice (some ⟨w.heap.size,0,none⟩) (n+m) (grownCap w (n+m) old e)):=by
  intro old ho;have hge:=grownCap_ge w (n+m) old e;have hcm:grownCap w (n+m) old e<=maxLen:=grownCap_le_maxLen w (n+m) old e h63;refine⟨⟨hlen, .inr ⟨w.heap.size,_,_,rfl,hbase,heap_alloc_new w.drew _,hge,hcm,?_,?_⟩⟩,⟨⟨rfl,rfl,rfl,by simp,fun _ hk _=>heap_alloc_old w.drew _ hk⟩,?_⟩⟩
  ·simp only[Array.size_append,Ad6,size_zeroCells,hzs,hlen,<-AeQ]
   congr 1
   omega
  ·simp only[Array.toList_append];rw[<-hlen];exact Ag5
  ·intro k hk;simp[Aec]at hk;exact .inr (by omega)
 rcases hown.2 with ⟨rfl,rfl⟩ | ⟨g,cap,cur,rfl,hbg,hg,hnc,hcm,hcs,htake⟩
 ·have hx:xs= []:=Aep (by simpa using hown.1);subst hx;by_cases hm:m=0
  ·subst hm;have hn:news= []:=Aep (by simpa using hl);subst hn;refine⟨.slice none 0 0,w,?_,Ae7 w base e i.size,Adp _ _⟩;have hc:=hs.cells;have hle:=hs.len;rcases hs.kind with ⟨e',hk⟩ | hk <;> simp[Aga,run_underlying ht,run_underlying hk,sizeOf,typeInfo,hi,hle,hc]
  ·have hgr:=grown 0 (by omega);have hr:=run_append_grow_src (P:=P) w t tx ty e i z ht hi hz none 0 0 [] (run_firstCells_none w.drew i.size 0 0 0) x m news hs (by omega) (by omega)
    (growslice_fits (by omega) hbytes)
   exact⟨_,_,hr,hgr.1,hgr.2⟩
 ·by_cases hroom:n+m<=cap
  ·have hfit:n*i.size+news.length<=cur.size:=by rw[hl,hcs,<-AeQ];exact AfU _ hroom
   have hst:=run_storeCells_at P g (n*i.size) e news 0 cur w hg (by simpa using hfit) hs.one;simp only[AgV]at hst;have hr:(Aga #[t,tx] ty #[.slice (some ⟨g,0,none⟩) n cap,x]).run P w = .ok (.slice (some ⟨g,0,none⟩) (n+m) cap) (w.setRow g (cur.toList.take (n*i.size)++news++cur.toList.drop (n*i.size+news.length)).toArray):=by
    rcases hs.kind with ⟨e',hk⟩ | hk <;> simp[Aga,run_underlying ht,run_underlying hk,sizeOf,typeInfo,hi,hs.len,hroom,hs.cells,Ae0,hst]
   refine⟨_,_,hr,⟨hlen, .inr ⟨g,cap,_,rfl,hbg,setRow_heap w g cur _ e _ hg,hroom,hcm,?_,?_⟩⟩,⟨⟨rfl,rfl,rfl,by simp,fun k _ hk=>setRow_other w g k _ (fun e=>hk (by simp[Aec,e]))⟩,fun k hk=> .inl hk⟩⟩
   ·simp only[Ad6,Adx,AdS,AdT,AeN];omega
   ·rw[htake,<-hlen];exact Ag5
  ·have holds:∀j u,xs[j]? =some u->w.cell? ((⟨g,0,none⟩:Addr).add j)=some u:=hown.cells (g:=g) rfl;have hgr:=grown cap (by omega);have hr:=run_append_grow_src (P:=P) w t tx ty e i z ht hi hz (some ⟨g,0,none⟩) n cap xs (run_firstCells_some w.drew i.size n ⟨g,0,none⟩ n cap xs hown.1 (by simpa using holds)) x m news hs (by omega) (by omega)
    (growslice_fits (by omega) hbytes)
   exact⟨_,_,hr,hgr.1,hgr.2⟩
theorem DC{ops:Array AdL}{rest:List AdL}{o:AdL}{a:Act}{Q:Age->Act->Ads->Prop}(hgd:o.guard=none)(s xo:AdC)(t tx:Ady) 
  (ho:o.op = .call { callee:= .builtin .append,args:= #[s,xo],argTypes:= #[t,tx] })
  (base:Nat) (e:Ady) (i:TypeInfo) (z:Adr) (size bytes:Nat) (ht:P.underlying t=some (.slice e)) (hi:P.info? e=some i) (hz:i.zero=some z)
  (hsize:i.size=size) (hby:i.bytes=bytes) (hzs:z.cells.size=size)
  (v:Adr) (n:Nat) (xs:List Adr) (hs:a.eval s=v) (hown:w.ownsRow base e size v n xs)
  (x:Adr) (m:Nat) (news:List Adr) (hx:a.eval xo=x) (hsrc:Src P size tx x m news w)
  (h63:n+m<=maxLen) (hbytes:(n+m)*bytes<=140737488355328) (hbase:base<=w.heap.size)
  (h:∀v' w',w'.ownsRow base e size v' (n+m) (xs++news)->Grew w w' v v' ->wpList P ops Q rest (a.put o.dst v') w'):wpList P ops Q (o :: rest) a w:=
 wpList_plain hgd fun K hK=>by
  obtain⟨v',w',hr,h2,h3⟩:=FD (P:=P) w base t tx o.type e i z size bytes ht hi hz hsize hby hzs v n xs hown x m news hsrc h63 hbytes hbase;unfold AfG execOp;simp only[ho,resolve,invoke,builtin,AdB,AdF,AdA,AdH,AdK,AdO,hs,hx,hr];exact hK _ _ (h v' w' h2 h3)
end
theorem AN{w:Ads}{b b' :Nat}{e:Ady}{size:Nat}{v:Adr}{n:Nat}{xs:List Adr}(h:w.ownsRow b e size v n xs)(hb:b' <=b):w.ownsRow b' e size v n xs:=
 ⟨h.1,h.2.imp (fun x=>x) (fun⟨g,cap,cur,a,c,r⟩=>⟨g,cap,cur,a,Adu hb c,r⟩)⟩
def Reads(w:Ads)(size:Nat)(v:Adr)(n:Nat)(xs:List Adr):Prop:=
 xs.length=n*size/\∃ao cap,v = .slice ao n cap/\n<=cap/\cap<=maxLen/\(ao=none->n=0/\cap=0)/\∀a,ao=some a->∀j u,xs[j]? =some u->w.cell? (a.add j)=some u
def RB(w:Ads)(v:Adr)(l:Ai1):Prop:=Reads w 1 v l.length (Adv l)

theorem Ay(l:Ai1):∀u∈Adv l,u.oneCell' =true:=by
 intro u hu;obtain⟨_,_,rfl⟩:=Aeq.1 hu;rfl
theorem RB.src{P:AdM}{tx e' :Ady}(hk:P.underlying tx=some (.slice e')){w:Ads}{v:Adr}{l:Ai1}(h:RB w v l):Src P 1 tx v l.length (Adv l) w:=by
 obtain⟨h1,ao,cap,rfl,h2,h3,h4,h5⟩:=h;cases ao with
 | none=>
  obtain⟨h6,rfl⟩:=h4 rfl;have:l= []:=Aep h6;subst this;exact Src.ofNil w hk 0
 | some a=>exact Src.ofSlice w hk a _ cap _ h1 (h5 a rfl) (Ay l)
theorem RB.below{B:Nat}{w w' :Ads}{v:Adr}{l:Ai1}(h:RB w v l)(hb:Below B w w')(hB:B=w.heap.size):RB w' v l:=by
 obtain⟨h1,ao,cap,rfl,h2,h3,h4,h5⟩:=h;refine⟨h1,ao,cap,rfl,h2,h3,h4,fun a ha j u hu=> ?_⟩;have:=h5 a ha j u hu;exact(hb.cell (by have:=AeD w _ this;omega)).trans this
theorem UH(s:ByteArray):byteCells s=Adv s.data.toList:=rfl
theorem Sg{P:AdM}{tx:Ady}(hk:P.underlying tx=some .string)(w:Ads)(s:ByteArray):Src P 1 tx (.string s) s.data.toList.length (Adv s.data.toList) w:=by
 have h:=Src.ofString (P:=P) w hk s;rw[UH]at h;exact h
theorem Z8{w:Ads}{base:Nat}{e:Ady}{v:Adr}{l:Ai1}(h:w.ownsRow base e 1 v l.length (Adv l)):RB w v l:=by
 refine⟨h.1,?_⟩;have h' :=h;rcases h.2 with ⟨rfl,h0⟩ | ⟨g,cap,cur,rfl,hbg,hg,hnc,hcm,hcs,htake⟩
 ·exact⟨none,0,by rw[h0],by omega,by simp[maxLen],fun _=>⟨h0,rfl⟩,fun a ha=>by cases ha⟩
 ·exact⟨some ⟨g,0,none⟩,cap,rfl,hnc,hcm,(fun h=>by cases h),(fun a ha j u hu=>by cases ha;exact h'.cells rfl j u hu)⟩
theorem Sh{P:AdM}{tx e' :Ady}(hk:P.underlying tx=some (.slice e'))(w:Ads)(c:Adr)(t:Ady)(hc:c.oneCell' =true):Src P 1 tx (.slice (some ⟨w.heap.size,0,none⟩) 1 1) 1 [c] (w.alloc (.cells #[c] t)):=
 Src.ofSlice _ hk ⟨w.heap.size,0,none⟩ 1 1 [c] rfl (fun j u hj=>by
  match j,hj with
  | 0,hj=>simp at hj;subst hj;simp[AfP]) (fun u hu=>by simp at hu;subst hu;exact hc)
structure NewB (e : Ady) (w w' : Ads) (v : Adr) (l : Ai1) : Prop where
 own:w'.ownsRow w.heap.size e 1 v l.length (Adv l)
 by_:w.grownBy w' none
theorem NewB.below{e:Ady}{w w' :Ads}{v:Adr}{l:Ai1}(h:NewB e w w' v l):Below w.heap.size w w' :=
 (Aeo _ _).grown h.by_ (Adw _) (fun k hk=>by cases hk)
theorem NewB.more{e:Ady}{w w1 w2:Ads}{v v' :Adr}{l l' :Ai1}(h:NewB e w w1 v l)(g:Grew w1 w2 v v')(ho:w2.ownsRow w.heap.size e 1 v' (l.length+l'.length) (Adv l++Adv l')):NewB e w w2 v' (l++l'):=
 ⟨by rw[Aij,Adx];exact ho,Aa h.by_ g.by_ (fun b hb=> .inr (h.own.lt b hb).1)⟩
theorem RB.keep{w w' :Ads}{v:Adr}{l:Ai1}(h:RB w v l)(hb:Below w.heap.size w w'):RB w' v l:=h.below hb rfl
theorem RB.len{w:Ads}{v:Adr}{l:Ai1}(h:RB w v l):∃ao cap,v = .slice ao l.length cap/\l.length<=cap/\cap<=9223372036854775807:=by
 obtain⟨h1,ao,cap,rfl,h2,h3,h4,h5⟩:=h;unfold maxLen at h3;exact⟨ao,cap,rfl,h2,h3⟩
open Go.ChangeShapes Go.WideShapes Go.ChangeAt Go.RowKit
open Go.ChangeMaps (open_string shut_string)
theorem NO{H:Type}(d:DataW H):1<=Rows.uptoBulk d:=by
 cases d with
 | lit l=>cases l <;> simp[Rows.uptoBulk]
 | nil=>simp[Rows.uptoBulk]
 | ptr d=>simp[Rows.uptoBulk]
 | slice elems spare=>simp[Rows.uptoBulk]
 | agg parts=>simp[Rows.uptoBulk]
 | iface t d=>simp[Rows.uptoBulk]
 | map entries=>simp[Rows.uptoBulk]
 | held h=>simp[Rows.uptoBulk]
theorem J5{H:Type}(l:List (DataW H)):l.length<=Rows.uptoBulkAll l:=by
 induction l with
 | nil=>simp[Rows.uptoBulkAll]
 | cons x r ih=>have:=NO x;simp only[Rows.uptoBulkAll,AdJ];omega
theorem QB{H:Type}(elems spare:List (DataW H)):elems.length+spare.length+1<=Rows.uptoBulk (.slice elems spare):=by
 have h1:=J5 elems;have h2:=J5 spare;simp only[Rows.uptoBulk];omega
theorem QC{w:Ads}{a:Addr}{len cap:Nat}{zs:List Int}(hl:len<=cap)(hm:cap<=maxLen)(hz:len<=zs.length)(hc:∀i,i<zs.length->w.cell? (a.add i)=some (.int .u8 (zs.getD i 0)))(hw:∀n∈zs,(Lit.int .u8 n).wf=true):
  RB w (.slice (some a) len cap) ((zs.take len).map fun n=>UInt8.ofNat n.toNat):=by
 have hlen:((zs.take len).map fun n=>UInt8.ofNat n.toNat).length=len:=by simp;omega
 refine⟨by rw[AdG,hlen,Nat.mul_one],some a,cap,by rw[hlen],by omega,hm,(fun h=>by cases h),fun a' ha j u hu=> ?_⟩;cases ha;have hj:j<len:=by
  have:=(AdR.1 hu).1;rw[AdG,hlen]at this;exact this
 have hjz:j<zs.length:=by omega
 have hwf:=hw zs[j] (Ae3 hjz);have hb:0<=zs[j]/\zs[j]<=255:=by simpa [Lit.wf,Ah5,Ah6,AfZ,Afl] using hwf
 rw[hc j hjz];simp[Adv,hj,hjz]at hu;rw[<-hu]
 congr 1
 simp[AhP,hjz];omega
section
variable {H : Type} {enc : Ady × Adr -> H} {P : AdM} {W : Ads}
theorem Ps{t e:Ady}{fuel:Nat}{cs:List Adr}{x:DataW H × List MemPlace}(ht:P.underlying t=some (.slice e))(he:P.underlying e=some (.int .u8))(hc:P.cellsOf e=1) 
  (hf:Ahw enc P W 0 (fun _=>true) true fuel t cs=some x):∃c l,cs= [c]/\RB W c l/\l.length+1<=Rows.uptoBulk x.1:=by
 rcases open_ints ht he hc hf with ⟨hcs,hx⟩ | ⟨a,l,c,zs,hcs,_,hl,hm,hz,hx,hcell,hwz⟩
 ·exact⟨_,[],hcs,⟨rfl,none,0,rfl,Adw _,by simp[maxLen],fun _=>⟨rfl,rfl⟩,fun a h=>by cases h⟩,by have:=NO x.1;simpa using this⟩
 ·simp at hz;refine⟨_,_,hcs,QC hl hm (by omega) hcell hwz,?_⟩;rw[hx];have:=QB (H:=H) (lits .u8 (zs.take l)) (lits .u8 (zs.drop l));simp[lits]at this ⊢;omega
theorem UI{t e:Ady}{n fuel:Nat}{cs:List Adr}{x:DataW H × List MemPlace}(ht:P.underlying t=some (.array n e))(he:P.underlying e=some (.int .u8))(hc:P.cellsOf e=1)(hn:P.cellsOf t=n) 
  (hf:Ahw enc P W 0 (fun _=>true) true fuel t cs=some x):∃l:Ai1,l.length=n/\cs=Adv l:=by
 obtain⟨xs,m,rfl,rfl,hlen,hxs,hel⟩:=DataW.trod_array ht hf;rw[hc]at hel;have hcell:∀i,(hi:i<n)->∃b:UInt8,cs[i]? =some (.int .u8 (b.toNat:Int)):=fun i hi=>by
  have h1:=hel i hi;have hx:xs[i]? =some (xs[i]'(by omega)):=AdE (by omega);rw[hx]at h1;obtain⟨a,c,_,wa⟩:=Aif he h1;have hb:0<=a/\a<=255:=by simpa [Lit.wf,Ah5,Ah6,AfZ,Afl] using wa
  refine⟨UInt8.ofNat a.toNat,?_⟩;have h2:((cs.drop (i*1)).take 1)[0]? =some (.int .u8 a):=by rw[c];rfl
  simp at h2;rw[h2]
  congr 2
  simp;omega
 refine⟨(Afj n).map fun i=>if h:i<n then Classical.choose (hcell i h)else 0,by simp,?_⟩
 apply List.ext_getElem?
 intro i;by_cases hi:i<n
 ·have:=Classical.choose_spec (hcell i hi);rw[this];simp[Adv,hi]
 ·rw[AeX (by omega),AeX (by simp[Adv];omega)]
end
theorem own:ownKnob Tryz.prog.godebug=none:=by kernel_rfl
theorem WP:laidOutB Tryz.prog=true:=by kernel_rfl
set_option maxRecDepth 100000
open Go.ChangeShapes Go.WideShapes Go.ChangeAt
noncomputable def IS(os:Os):Ads:=World.laidAll Tryz.prog os Rows.journalNilRow.laid
theorem UJ(os:Os)(args:Array Adr):laidMet Tryz.prog Rows.journalNilRow.laid ((IS os).forCall (fun _ _=>0) ⟨#[],args,[]⟩).memory:=
 laidMet_laidAll _ (by kernel_rfl) (by kernel_rfl)
abbrev BH:=Adr->Ads->Prop
def Is(v:Adr):BH:=fun x _=>x=v
def Ab(ρ:Tmp->Adr):AdC->Adr
 | .tmp t=>ρ t
 | .const v=>v
 | .global g=> .pointer (some ⟨g,0,none⟩)
 | .func f=> .func (.func f) #[] #[]
theorem evalR_eq(a:Act):Ab (fun t=>a.tmps.getD t undef)=a.eval:=by
 funext x
 cases x <;> rfl
def Yk(P:AdM)(K:Adr->Ads->Prop):Aig Next->Prop
 | .ok (.value v) w=>K v w
 | .ok .skip w=>K undef w
 | .ok (.enter f args) w=>Calls P f args w fun e w' =>∃v,e = .returned v/\K v w'
 | _=>False
def DJ(l:List AdL)(t:Tmp):Nat->Option Nat
 | 0=>none
 | n+1=>if(l[n]?.bind (·.dst))=some t then some n else DJ l t n
def GC(l:List AdL)(Φ:Nat->BH)(T:Array Adr)(n:Nat)(t:Tmp)(x:Adr)(w:Ads):Prop:=
 match DJ l t n with
 | none=>x=T.getD t undef
 | some k=>Φ k x w
def A9(l:List AdL)(o:AdL)(ρ:Tmp->Adr):Bool:=
 match o.guard with
 | none=>true
 | some (g,want)=>match (l[g]?).bind (·.dst)with
  | some t=>(match ρ t with | .bool b=>b==want | _=>false)
  | none=>false
def IT(P:AdM)(l:List AdL)(C:Nat->Ads->Prop)(R:Nat->Ads->Ads->Prop)(Φ:Nat->BH)(T:Array Adr)(n:Nat)(o:AdL):Prop:=
 ∀(ρ:Tmp->Adr) (w:Ads),C n w->(∀t∈o.looksAt l.toArray,GC l Φ T n t (ρ t) w) ->
  if A9 l o ρ=true then Yk P (fun v w' =>R n w w' /\Φ n v w') ((execOp (Ab ρ) o).run P w)else Φ n undef w
def StepsOk(P:AdM)(l:List AdL)(C:Nat->Ads->Prop)(R:Nat->Ads->Ads->Prop)(Φ:Nat->BH)(T:Array Adr):Nat->List AdL->Prop
 | _,[]=>True
 | n,o :: r=>IT P l C R Φ T n o/\StepsOk P l C R Φ T (n+1) r
theorem StepsOk.get{P:AdM}{l:List AdL}{C:Nat->Ads->Prop}{R:Nat->Ads->Ads->Prop}{Φ:Nat->BH}{T:Array Adr}:
  ∀(r:List AdL) (n:Nat),StepsOk P l C R Φ T n r->∀k o,r[k]? =some o->IT P l C R Φ T (n+k) o
 | [],_,_,k,o,h=>by simp at h
 | x :: r,n,h,0,o,hk=>by simp at hk;subst hk;exact h.1
 | x :: r,n,h,k+1,o,hk=>by
  have:=StepsOk.get r (n+1) h.2 k o (by simpa using hk)
  rwa [show n+(k+1)=n+1+k by omega]
/-! ### The edges' closure, as bits -/
def Hq(acc:List Nat)(o:AdL):Nat:=
 o.after.toList.foldl (fun s e=>if Aeu .any e then s|||2^e.on|||acc.getD e.on 0 else s) 0
def AT:List AdL->List Nat->List Nat
 | [],acc=>acc
 | o :: r,acc=>AT r (acc++ [Hq acc o])
theorem NP(acc:List Nat)(k:Nat):∀(es:List Aej) (s:Nat),(es.foldl (fun s e=>if Aeu .any e then s|||2^e.on|||acc.getD e.on 0 else s) s).testBit k=true ->
  s.testBit k=true\/∃e∈es,Aeu .any e=true/\(e.on=k\/(acc.getD e.on 0).testBit k=true)
 | [],s,h=> .inl h
 | e :: es,s,h=>by
  rw[AgD]at h;rcases NP acc k es _ h with h1 | ⟨e',he',hb,hx⟩
  ·by_cases hb:Aeu .any e=true
   ·rw[if_pos hb]at h1;simp only[Nat.testBit_or,AeH]at h1;rcases h1 with (h1 | h1) | h1
    ·exact .inl h1
    ·rw[Nat.testBit_two_pow]at h1;exact .inr ⟨e,by simp,hb, .inl (by simpa using h1)⟩
    ·exact .inr ⟨e,by simp,hb, .inr h1⟩
   ·rw[if_neg hb]at h1;exact .inl h1
  ·exact .inr ⟨e',by simp[he'],hb,hx⟩
theorem Pt{acc:List Nat}{o:AdL}{k:Nat}(h:(Hq acc o).testBit k=true):
  ∃e∈o.after,Aeu .any e=true/\(e.on=k\/(acc.getD e.on 0).testBit k=true):=by
 rcases NP acc k _ _ h with h1 | ⟨e,he,hb,hx⟩
 ·simp at h1
 ·exact⟨e,by simpa using he,hb,hx⟩
theorem Kz(l:List AdL):∀(r:List AdL) (acc:List Nat),acc.length+r.length=l.length->(∀j,r[j]? =l[acc.length+j]?) ->
  (∀i o k,i<acc.length->l[i]? =some o->(acc.getD i 0).testBit k=true->∃e∈o.after,Aeu .any e=true/\(e.on=k\/(e.on<i/\(acc.getD e.on 0).testBit k=true))) ->
  ∀i o k,l[i]? =some o->((AT r acc).getD i 0).testBit k=true->∃e∈o.after,Aeu .any e=true/\(e.on=k\/(e.on<i/\((AT r acc).getD e.on 0).testBit k=true))
 | [],acc,hl,_,hacc,i,o,k,hi,h=>by
  have:i<l.length:=(AdR.1 hi).1;exact hacc i o k (by simp at hl;omega) hi h
 | x :: r,acc,hl,hr,hacc,i,o,k,hi,h=>by
  rw[AT]at h ⊢;refine Kz l r (acc++ [Hq acc x]) (by simp at hl ⊢;omega) (fun j=>by have:=hr (j+1);simp at this ⊢;rw[this];congr 1;omega) ?_ i o k hi h;intro i o k hlt ho ht;have keep:∀j,j<acc.length->(acc++ [Hq acc x]).getD j 0=acc.getD j 0:=fun j hj=>by
   simp[AhP,AeP hj]
  simp at hlt;by_cases hia:i<acc.length
  ·rw[keep i hia]at ht;obtain⟨e,he,hb,hx⟩:=hacc i o k hia ho ht;exact⟨e,he,hb,hx.imp id (fun h2=>⟨h2.1,by rw[keep _ (by omega)];exact h2.2⟩)⟩
  ·have hie:i=acc.length:=by omega
   subst hie;have a:x=o:=by
    have:=hr 0;simp[ho]at this;exact this
   subst a;have b:(acc++ [Hq acc x]).getD acc.length 0=Hq acc x:=by simp[AhP]
   rw[b]at ht;obtain⟨e,he,hb,hx⟩:=Pt ht;refine⟨e,he,hb,hx.imp id (fun h2=> ?_)⟩;by_cases hl:e.on<acc.length
   ·exact⟨hl,by rw[keep _ hl];exact h2⟩
   ·simp[AhP,AeX (show acc.length<=e.on by omega)]at h2
def JN(l:List AdL)(o:AdL):List Tmp:=o.dst.toList++o.looksAt l.toArray
def DD(l:List AdL)(size:Nat):Bool:=
 let m:=AT l []
 l.zipIdx.all fun(o,j)=>
  (o.after.all fun e=> !Aeu .any e||e.on<j) &&
  (match o.dst with | some d=>decide (d<size) | none=>true) &&
  l.zipIdx.all fun(p,i)=>decide (j<=i)||((match p.dst with | some d=> !(JN l o).contains d | none=>true)&&(match o.dst with | some d=> !(JN l p).contains d | none=>true))||(m.getD j 0).testBit i
structure KA (l : List AdL) (size : Nat) : Prop where
 back:∀(j:Nat) (o:AdL),l[j]? =some o->∀e∈o.after,Aeu .any e=true->e.on<j
 room:∀(j:Nat) (o:AdL) (d:Tmp),l[j]? =some o->o.dst=some d->d<size
 tied:∀(j:Nat) (o:AdL) (i:Nat) (p:AdL) (d:Tmp),l[j]? =some o->l[i]? =some p->i<j->(p.dst=some d/\d∈JN l o\/o.dst=some d/\d∈JN l p)->((AT l []).getD j 0).testBit i=true
theorem Hr{l:List AdL}{size:Nat}(h:DD l size=true):KA l size:=by
 unfold DD at h;simp only[Ael]at h;have hz:∀j o,l[j]? =some o->(o,j)∈l.zipIdx:=fun j o ho=>by
  rw[Ag6];exact ho
 refine⟨fun j o ho e he hb=> ?_,fun j o d ho hd=> ?_,fun j o i p d ho hp hij hx=> ?_⟩
 ·have:=h _ (hz j o ho);simp only[AdX]at this;have h2:=Array.all_eq_true_iff_forall_mem.1 this.1.1 e he
  simpa [hb] using h2
 ·have:=h _ (hz j o ho);simp only[AdX,hd]at this
  simpa using this.1.2
 ·have:=h _ (hz j o ho);simp only[AdX,Ael]at this;have h2:=this.2 _ (hz i p hp);simp only[AeH,decide_eq_true_eq,AdX]at h2;rcases h2 with (h2 | h2) | h2
  ·omega
  ·exfalso;rcases hx with ⟨h3,h4⟩ | ⟨h3,h4⟩
   ·have h5:=h2.1;rw[h3]at h5;simp at h5;exact h5 h4
   ·have h5:=h2.2;rw[h3]at h5;simp at h5;exact h5 h4
  ·exact h2
def Fh(l:List AdL)(kill:Nat->List Nat):Bool:=
 let m:=AT l []
 l.zipIdx.all fun(o,j)=>(Afj l.length).all fun n=>decide (n=j)||(kill n).all fun k=>(m.getD n 0).testBit j||(o.looksAt l.toArray).all fun t=>DJ l t j != some k
theorem WQ{l:List AdL}{kill:Nat->List Nat}(h:Fh l kill=true)(j n k:Nat)(o:AdL)(t:Tmp)(ho:l[j]? =some o)(hn:n<l.length)(hne:n≠j)(hk:k∈kill n)(ht:t∈o.looksAt l.toArray)(hw:DJ l t j=some k):((AT l []).getD n 0).testBit j=true:=by
 unfold Fh at h;simp only[Ael]at h;have h1:=h (o,j) (by rw[Ag6];exact ho) n (by simpa using hn);simp only[AeH,decide_eq_true_eq,hne,false_or,Ael]at h1;rcases h1 k hk with h2 | h2
 ·exact h2
 ·have:=h2 t ht;simp[hw]at this
section
variable {P : AdM} {l : List AdL} {kill : Nat -> List Nat} {C : Nat -> Ads -> Prop} {E : Array Bool -> Ads -> Prop} {R : Nat -> Ads -> Ads -> Prop} {Φ : Nat -> BH} {a0 : Act}
def On(listed:Array Bool)(i:Nat):Prop:=listed.getD i false=true
theorem On.lt{listed:Array Bool}{i:Nat}(h:On listed i):i<listed.size:=by
 unfold On at h;rcases Nat.lt_or_ge i listed.size with h' | h'
 ·exact h'
 ·simp[Agf h']at h
theorem AR{listed:Array Bool}{i j:Nat}(hi:i<listed.size):On (listed.setIfInBounds i true) j↔j=i\/On listed j:=by
 unfold On;by_cases h:i=j
 ·subst h;simp[hi]
 ·simp[Afz h,Ne.symm h]
structure Inv (l : List AdL) (kill : Nat -> List Nat) (C : Nat -> Ads -> Prop) (E : Array Bool -> Ads -> Prop) (Φ : Nat -> BH) (a0 : Act) (listed : Array Bool) (a : Act) (w : Ads) : Prop where
 size:listed.size=l.length
 closed:∀i o,l[i]? =some o->On listed i->∀e∈o.after,Aeu .any e=true->On listed e.on
 defers:a.defers=a0.defers
 tmps:a.tmps.size=a0.tmps.size
 cls:∀n,n<l.length->¬On listed n->C n w
 ecl:E listed w
 old:∀t,(∀k o,l[k]? =some o->o.dst=some t->¬On listed k)->a.tmps.getD t undef=a0.tmps.getD t undef
 new:∀t k o,l[k]? =some o->o.dst=some t->On listed k->(∀k' o',k<k' ->l[k']? =some o' ->o'.dst=some t->¬On listed k')->(∀n,On listed n->k∉kill n)->Φ k (a.tmps.getD t undef) w
theorem Inv.mask{listed:Array Bool}{a:Act}{w:Ads}(h:Inv l kill C E Φ a0 listed a w):
  ∀(i k:Nat),On listed i->((AT l []).getD i 0).testBit k=true->On listed k:=by
 intro i
 induction i using Agb with
 | _ i ih=>
  intro k hi hk;have hlt:i<l.length:=by have:=hi.lt;rw[h.size]at this;exact this
  have ho:l[i]? =some l[i]:=AdE hlt;obtain⟨e,he,hb,hx⟩:=Kz l l [] (by simp) (by simp) (fun i o k hi=>by simp at hi) i l[i] k ho hk;have hon:=h.closed i _ ho hi e he hb;rcases hx with rfl | ⟨b,ht⟩
  ·exact hon
  ·exact ih e.on b k hon ht
theorem Inv.maskReady{listed:Array Bool}{a:Act}{w:Ads}(h:Inv l kill C E Φ a0 listed a w){i:Nat}{o:AdL}(ho:l[i]? =some o) 
  (hall:∀e∈o.after,Aeu .any e=true->On listed e.on) {k:Nat} (hk:((AT l []).getD i 0).testBit k=true):On listed k:=by
 obtain⟨e,he,hb,hx⟩:=Kz l l [] (by simp) (by simp) (fun i o k hi=>by simp at hi) i o k ho hk;have hon:=hall e he hb;rcases hx with rfl | ⟨_,ht⟩
 ·exact hon
 ·exact h.mask _ _ hon ht
theorem J6{t:Tmp}:∀(n:Nat),DJ l t n=none->∀(k:Nat) (o:AdL),k<n->l[k]? =some o->o.dst≠some t
 | 0,_,k,o,hk,_=>by omega
 | n+1,h,k,o,hk,ho=>by
  unfold DJ at h;split at h
  ·cases h
  ·rename_i hne
   by_cases hkn:k=n
   ·subst hkn;intro hd;simp[ho,hd]at hne
   ·exact J6 n h k o (by omega) ho
theorem FN{t:Tmp}{k:Nat}:∀(n:Nat),DJ l t n=some k->k<n/\(∃o,l[k]? =some o/\o.dst=some t)/\∀(k' :Nat) (o' :AdL),k<k' ->k' <n->l[k']? =some o' ->o'.dst≠some t
 | 0,h=>by cases h
 | n+1,h=>by
  unfold DJ at h;split at h
  ·rename_i he
   have hkn:n=k:=AdY h;subst hkn;refine⟨by omega,?_,fun k' o' h1 h2=>by omega⟩;cases ho:l[n]? with
   | none=>simp[ho]at he
   | some o=>exact⟨o,rfl,by simpa [ho] using he⟩
  ·rename_i hne
   obtain⟨h1,h2,h3⟩:=FN n h;refine⟨by omega,h2,fun k' o' hk hk' ho' hd=> ?_⟩;by_cases he:k' =n
   ·subst he;simp[ho',hd]at hne
   ·exact h3 k' o' hk (by omega) ho' hd
theorem Inv.look(g:KA l a0.tmps.size)(hkl:Fh l kill=true){listed:Array Bool}{a:Act}{w:Ads}(h:Inv l kill C E Φ a0 listed a w){i:Nat}{o:AdL}(ho:l[i]? =some o)(hi:¬On listed i) 
  (hall:∀e∈o.after,Aeu .any e=true->On listed e.on) (t:Tmp) (ht:t∈o.looksAt l.toArray):GC l Φ a0.tmps i t (a.tmps.getD t undef) w:=by
 have hlate:∀k o',i<=k->l[k]? =some o' ->o'.dst=some t->¬On listed k:=fun k o' hk ho' hd hon=>by
  by_cases he:k=i
  ·subst he;exact hi hon
  ·exact hi (h.mask k i hon (g.tied k o' i o t ho' ho (by omega) (.inr ⟨hd,AeY _ ht⟩)))
 unfold GC;split
 ·rename_i hw
  refine h.old t fun k o' ho' hd hon=> ?_;by_cases hk:k<i
  ·exact J6 _ hw k o' hk ho' hd
  ·exact hlate k o' (by omega) ho' hd hon
 ·rename_i k hw
  obtain⟨hk,⟨ok,hok,hdk⟩,hno⟩:=FN _ hw;refine h.new t k ok hok hdk (h.maskReady ho hall (g.tied i o k ok t ho hok hk (.inl ⟨hdk,AeY _ ht⟩))) (fun k' o' hkk ho' hd=> ?_) (fun n hon hkn=> ?_)
  ·by_cases hki:k' <i
   ·exact absurd hd (hno k' o' hkk hki ho')
   ·exact hlate k' o' (by omega) ho' hd
  ·have hne:n≠i:=fun e=>hi (e▸hon);exact hi (h.mask n i hon (WQ hkl i n k o t ho (by have:=hon.lt;rw[h.size]at this;exact this) hne hkn ht hw))
theorem Inv.put(g:KA l a0.tmps.size)(hC:∀n m,n<l.length->m<l.length->n≠m->((AT l []).getD n 0).testBit m=false->∀w w',C m w->R n w w' ->C m w')(hE:∀n listed w w',n<l.length->listed.size=l.length->¬On listed n->(∀i k,On listed i\/i=n->((AT l []).getD i 0).testBit k=true->On listed k)->E listed w->R n w w' ->E (listed.setIfInBounds n true) w')(hΦ:∀n i,n<l.length->i<l.length->i∉kill n->i≠n->((AT l []).getD i 0).testBit n=false->∀v w w',Φ i v w->R n w w' ->Φ i v w'){listed:Array Bool}{a:Act}{w:Ads}(h:Inv l kill C E Φ a0 listed a w){i:Nat}{o:AdL}(ho:l[i]? =some o)(hi:¬On listed i) 
  (hall:∀e∈o.after,Aeu .any e=true->On listed e.on) {v:Adr} {w' :Ads} (hR:R i w w') (hv:Φ i v w'):Inv l kill C E Φ a0 (listed.setIfInBounds i true) (a.put o.dst v) w' :=by
 have hil:i<listed.size:=by rw[h.size];exact(AdR.1 ho).1
 have hget:∀t,o.dst≠some t->(a.put o.dst v).tmps.getD t undef=a.tmps.getD t undef:=fun t ht=>by
  cases hd:o.dst with
  | none=>rfl
  | some d=>
   have hne:d≠t:=fun e=>ht (by rw[hd,e]);simp[Act.put,Afz hne]
 have hilen:i<l.length:=(AdR.1 ho).1;refine⟨by simpa using h.size,fun j oj hj hon e he hb=> ?_,?_,?_,fun m hm hno=> ?_,hE i listed w w' hilen h.size hi (fun j k hj hk=>hj.elim (fun hj=>h.mask j k hj hk) (fun hj=>by subst hj;exact h.maskReady ho hall hk)) h.ecl hR,fun t ht=> ?_,fun t k ok hk hd hon hlast hkl=> ?_⟩
 ·rcases(AR hil).1 hon with rfl | hon
  ·obtain rfl:o=oj:=by rw[ho]at hj;exact AdY hj
   exact(AR hil).2 (.inr (hall e he hb))
  ·exact(AR hil).2 (.inr (h.closed j oj hj hon e he hb))
 ·cases hd:o.dst <;> exact h.defers
 ·cases hd:o.dst with
  | none=>exact h.tmps
  | some d=>simpa [Act.put] using h.tmps
 ·have hnm:i≠m:=fun e=>hno ((AR hil).2 (.inl e.symm));have hoff:¬On listed m:=fun h' =>hno ((AR hil).2 (.inr h'));refine hC i m hilen hm hnm ?_ _ _ (h.cls m hm hoff) hR;cases hb:((AT l []).getD i 0).testBit m with
  | false=>rfl
  | true=>exact absurd (h.maskReady ho hall hb) hoff
 ·have hne:o.dst≠some t:=fun hd=>ht i o ho hd ((AR hil).2 (.inl rfl));rw[hget t hne];exact h.old t fun k ok hk hd hon=>ht k ok hk hd ((AR hil).2 (.inr hon))
 ·by_cases hdt:o.dst=some t
  ·by_cases hki:k=i
   ·subst hki;have hroom:=g.room k o t ho hdt;have:(a.put o.dst v).tmps.getD t undef=v:=by
     rw[hdt];simp[Act.put,h.tmps,hroom]
    rw[this];exact hv
   ·exfalso;rcases(AR hil).1 hon with he | hon
    ·exact hki he
    ·rcases Nat.lt_or_gt_of_ne hki with hlt | hgt
     ·exact hlast i o hlt ho hdt ((AR hil).2 (.inl rfl))
     ·exact hi (h.mask k i hon (g.tied k ok i o t hk ho hgt (.inl ⟨hdt,Agr _ (by simp[hd])⟩)))
  ·have hki:k≠i:=fun e=>by subst e;rw[ho]at hk;cases hk;exact hdt hd
   rw[hget t hdt];have hkon:On listed k:=((AR hil).1 hon).resolve_left hki;have hmf:((AT l []).getD k 0).testBit i=false:=by
    cases hb:((AT l []).getD k 0).testBit i with
    | false=>rfl
    | true=>exact absurd (h.mask k i hkon hb) hi
   refine hΦ i k (AdR.1 ho).1 (AdR.1 hk).1 (hkl i ((AR hil).2 (.inl rfl))) hki hmf _ _ _ (h.new t k ok hk hd (((AR hil).1 hon).resolve_left hki) (fun k' o' hkk ho' hd' hon' => ?_) (fun n hn=>hkl n ((AR hil).2 (.inr hn)))) hR;exact hlast k' o' hkk ho' hd' ((AR hil).2 (.inr hon'))
theorem Mk(a:Act)(o:AdL):A9 l o (fun t=>a.tmps.getD t undef)=AeA o (yielded l.toArray a.tmps):=by
 unfold A9 AeA yielded;cases hg:o.guard with
 | none=>rfl
 | some gw=>
  obtain⟨g,want⟩:=gw;simp only[Aeh];cases hd:(l[g]?).bind (·.dst)with
  | none=>simp
  | some t=>
   simp only[Option.bind_some];cases hx:a.tmps[t]? with
   | none=>simp[Ad8,hx,undef]
   | some x=>cases x <;> simp[Ad8,hx]
theorem Inv.step(g:KA l a0.tmps.size)(hkl:Fh l kill=true)(hC:∀n m,n<l.length->m<l.length->n≠m->((AT l []).getD n 0).testBit m=false->∀w w',C m w->R n w w' ->C m w')(hE:∀n listed w w',n<l.length->listed.size=l.length->¬On listed n->(∀i k,On listed i\/i=n->((AT l []).getD i 0).testBit k=true->On listed k)->E listed w->R n w w' ->E (listed.setIfInBounds n true) w')(hΦ:∀n i,n<l.length->i<l.length->i∉kill n->i≠n->((AT l []).getD i 0).testBit n=false->∀v w w',Φ i v w->R n w w' ->Φ i v w')(hRr:∀n o w,l[n]? =some o->o.guard.isSome=true->R n w w){listed:Array Bool}{a:Act}{w:Ads}(h:Inv l kill C E Φ a0 listed a w){i:Nat}{o:AdL}(ho:l[i]? =some o)(hi:¬On listed i) 
  (hall:∀e∈o.after,Aeu .any e=true->On listed e.on) (hs:IT P l C R Φ a0.tmps i o) {K:Act->Ads->Prop} {Q:Age->Act->Ads->Prop}
  (hK:∀a' w',Inv l kill C E Φ a0 (listed.setIfInBounds i true) a' w' ->K a' w'):wpOp P l.toArray Q i K a w:=by
 have hst:=hs (fun t=>a.tmps.getD t undef) w (h.cls i (AdR.1 ho).1 hi) (fun t ht=>h.look g hkl ho hi hall t ht);rw[Mk,evalR_eq]at hst;unfold wpOp;simp only[Aeh,ho];by_cases hw:AeA o (yielded l.toArray a.tmps)=true
 ·rw[if_pos hw]at hst ⊢;refine .inl ?_;unfold AfG
  generalize (execOp a.eval o).run P w=r at hst ⊢
  cases r with
  | halt x w' =>exact hst.elim
  | ok n w' =>
   cases n <;> simp only[Yk]at hst <;> simp only[AfY]
   case value v=>exact hK _ _ (h.put g hC hE hΦ ho hi hall hst.1 hst.2)
   case skip=>exact hK _ _ (h.put g hC hE hΦ ho hi hall hst.1 hst.2)
   case enter f args=>
    refine hst.mono fun e w'' hx=> ?_;obtain⟨v,rfl,h1,h2⟩:=hx;exact hK _ _ (h.put g hC hE hΦ ho hi hall h1 h2)
 ·rw[if_neg hw]at hst ⊢;have hgs:o.guard.isSome=true:=by
   cases hgo:o.guard with
   | none=>exact absurd (by unfold AeA;rw[hgo]) hw
   | some x=>rfl
  exact hK _ _ (h.put g hC hE hΦ ho hi hall (hRr i o w ho hgs) hst)
theorem FX:∀(L:List Bool) (i:Nat),L[i]? =some false->((L.set i true).filter (!·)).length+1=(L.filter (!·)).length
 | [],i,h=>by simp at h
 | x :: L,0,h=>by simp at h;subst h;simp
 | x :: L,i+1,h=>by
  have ih:=FX L i (by simpa using h);cases x <;> simp <;> omega
theorem Gq:∀(L:List Bool),(L.filter (!·)).length=0->∀i:Nat,i<L.length->L[i]? =some true
 | [],_,i,h=>by simp at h
 | x :: L,h0,i,h=>by
  cases x
  ·simp at h0
  ·cases i with
   | zero=>rfl
   | succ i=>
    rw[Af7];exact Gq L (by simpa using h0) i (by simpa using h)
theorem XS(g:KA l a0.tmps.size)(hkl:Fh l kill=true)(hC:∀n m,n<l.length->m<l.length->n≠m->((AT l []).getD n 0).testBit m=false->∀w w',C m w->R n w w' ->C m w')(hE:∀n listed w w',n<l.length->listed.size=l.length->¬On listed n->(∀i k,On listed i\/i=n->((AT l []).getD i 0).testBit k=true->On listed k)->E listed w->R n w w' ->E (listed.setIfInBounds n true) w')(hΦ:∀n i,n<l.length->i<l.length->i∉kill n->i≠n->((AT l []).getD i 0).testBit n=false->∀v w w',Φ i v w->R n w w' ->Φ i v w')(hRr:∀n o w,l[n]? =some o->o.guard.isSome=true->R n w w)(hs:StepsOk P l C R Φ a0.tmps 0 l){Q:Age->Act->Ads->Prop} 
  (hQ:∀listed a' w',(∀i,i<l.length->On listed i)->Inv l kill C E Φ a0 listed a' w' ->Q .normal a' w'):
  ∀(fuel:Nat) (listed:Array Bool) (a:Act) (w:Ads),(listed.toList.filter (!·)).length=fuel->Inv l kill C E Φ a0 listed a w->wpAny P .any l.toArray Q fuel listed a w:=by
 have full:∀(listed:Array Bool) (a:Act) (w:Ads),Inv l kill C E Φ a0 listed a w->AeV .any l.toArray listed= []->∀i,i<l.length->On listed i:=by
  intro listed a w h hr i
  induction i using Agb with
  | _ i ih=>
   intro hi;refine Classical.byContradiction fun hno=> ?_;have ho:l[i]? =some l[i]:=AdE hi;have:i∈AeV .any l.toArray listed:=by
    refine mem_ready.2 ⟨?_,l[i],by rw[Aeh];exact ho,fun e he hb=> ?_⟩
    ·have hi' :i<listed.size:=by rw[h.size];exact hi
     unfold On at hno;simp[hi']at hno ⊢;exact hno
    ·have hlt:=g.back i _ ho e he hb;exact ih e.on hlt (by omega)
   rw[hr]at this;cases this
 intro fuel
 induction fuel with
 | zero=>
  intro listed a w hf h;have hon:∀i,i<l.length->On listed i:=fun i hi=>by
   have:=Gq _ hf i (by rw[AeN,h.size];exact hi);unfold On;simp at this;simp[this]
  have hr:AeV .any l.toArray listed= []:=by
   cases hr:AeV .any l.toArray listed with
   | nil=>rfl
   | cons x xs=>
    exfalso;have hm:x∈AeV .any l.toArray listed:=by rw[hr];simp
    obtain⟨h1,o,ho,_⟩:=mem_ready.1 hm;have hx:x<l.length:=by simpa using (Aef.1 ho).1
    have h2:=hon x hx;have hx' :x<listed.size:=h2.lt;unfold On at h2;simp[hx']at h1 h2;rw[h1]at h2;cases h2
  exact⟨hr,hQ _ _ _ hon h⟩
 | succ fuel ih=>
  intro listed a w hf h;refine⟨fun hr=>hQ _ _ _ (full listed a w h hr) h,fun i hi=> ?_⟩;obtain⟨h1,o,ho,hall⟩:=mem_ready.1 hi;have ho' :l[i]? =some o:=by simpa using ho
  have hil:i<listed.size:=by rw[h.size];exact(AdR.1 ho').1
  have hno:¬On listed i:=by
   unfold On;simp[hil]at h1 ⊢;exact h1
  have hst:=hs.get l 0 i o ho';rw[Afa]at hst;refine h.step g hkl hC hE hΦ hRr ho' hno (fun e he hb=>hall e he hb) hst fun a' w' h' =>ih _ _ _ ?_ h';rw[AfQ];have:=FX listed.toList i (by
   simp[hil]at h1;simp[hil,h1])
  omega
def slotsW(l:List AdL):List Tmp:=(l.filterMap (·.dst)).eraseDups
def DU(T:Array Adr)(ds:List Tmp)(u:Tmp->Adr):Array Adr:=ds.foldl (fun T d=>T.setIfInBounds d (u d)) T
theorem Fi(u:Tmp->Adr):∀(ds:List Tmp) (T:Array Adr),(DU T ds u).size=T.size
 | [],T=>rfl
 | d :: ds,T=>by unfold DU;rw[AgD];exact(Fi u ds _).trans (by simp)
theorem IU(u:Tmp->Adr)(t:Tmp):∀(ds:List Tmp) (T:Array Adr),t<T.size->(DU T ds u).getD t undef=if t∈ds then u t else T.getD t undef
 | [],T,_=>by simp[DU]
 | d :: ds,T,ht=>by
  have ih:=IU u t ds (T.setIfInBounds d (u d)) (by simpa using ht);unfold DU at ih ⊢;rw[AgD,ih];by_cases h1:t∈ds
  ·simp[h1]
  ·by_cases h2:t=d
   ·subst h2;simp[h1,ht]
   ·simp[h1,h2,Afz (Ne.symm h2)]
def C1(l:List AdL)(kill:Nat->List Nat)(Φ:Nat->BH)(u:Tmp->Adr)(w:Ads):List Tmp->Prop
 | []=>True
 | d :: ds=>(match DJ l d l.length with | some k=>if(Afj l.length).all (fun n=> !(kill n).contains k)=true then Φ k (u d) w else True | none=>True)/\C1 l kill Φ u w ds
theorem Hd{u:Tmp->Adr}{w:Ads}(h:∀d k,DJ l d l.length=some k->(Afj l.length).all (fun n=> !(kill n).contains k)=true->Φ k (u d) w):∀ds,C1 l kill Φ u w ds
 | []=>trivial
 | d :: ds=>⟨by split;(split;(exact h d _ ‹_› ‹_›);trivial);trivial,Hd h ds⟩
theorem XT(T:Array Adr)(df:List Deferred){Q:Age->Act->Ads->Prop}(ds:List Tmp)(hds:slotsW l=ds) 
  (hQ:∀(u:Tmp->Adr) listed w',(∀i,i<l.length->On listed i)->E listed w' ->C1 l kill Φ u w' ds->Q .normal { tmps:=DU T ds u,defers:=df } w'):
  ∀listed a' w',(∀i,i<l.length->On listed i)->Inv l kill C E Φ { tmps:=T,defers:=df } listed a' w' ->Q .normal a' w' :=by
 intro listed a' w' hon h;have hw:∀d k,DJ l d l.length=some k->(Afj l.length).all (fun n=> !(kill n).contains k)=true->Φ k (a'.tmps.getD d undef) w' :=fun d k hk hall=>by
  obtain⟨h1,⟨o,ho,hd⟩,h3⟩:=FN _ hk;refine h.new d k o ho hd (hon k h1) (fun k' o' hkk ho' hd' _=>h3 k' o' hkk (AdR.1 ho').1 ho' hd') (fun n hn hkn=> ?_);have hnl:n<l.length:=by have:=hn.lt;rw[h.size]at this;exact this
  have:=Ael.1 hall n (by simpa using hnl);simp at this;exact this hkn
 have hq:=hQ (fun t=>a'.tmps.getD t undef) listed w' hon h.ecl (Hd hw ds);have he:a' = { tmps:=DU T ds (fun t=>a'.tmps.getD t undef),defers:=df } :=by
  have h1:a'.tmps=DU T ds (fun t=>a'.tmps.getD t undef):=by
   apply Array.ext (by rw[Fi];exact h.tmps)
   intro t ht1 ht2;have ht3:t<T.size:=by rw[Fi]at ht2;exact ht2
   have hx:=IU (fun t=>a'.tmps.getD t undef) t ds T ht3;have a:∀(A:Array Adr) (ht:t<A.size),A.getD t undef=A[t]:=fun A ht=>by
    rw[Ad8,Array.getElem?_eq_getElem ht,Option.getD_some]
   rw[a _ ht2]at hx;by_cases hn:t∈ds
   ·rw[if_pos hn,a _ ht1]at hx;exact hx.symm
   ·rw[if_neg hn,a _ ht3]at hx;have ho:a'.tmps.getD t undef=T.getD t undef:=h.old t fun k o ho hd _=>hn (by
     rw[<-hds];unfold slotsW;rw[Ahe,AgG];exact⟨o,List.mem_of_getElem? ho,hd⟩)
    rw[a _ ht1,a _ ht3]at ho;exact ho.trans hx.symm
  have h2:=h.defers;cases a';simp only at h1 h2;subst h2;rw[<-h1]
 rw[he];exact hq
theorem LY(kill:Nat->List Nat)(C:Nat->Ads->Prop)(E:Array Bool->Ads->Prop)(R:Nat->Ads->Ads->Prop)(Φ:Nat->BH){id:Nat}{Q:Age->Act->Ads->Prop}{w:Ads}(hm:P.follows .mixedOrders=true)(T:Array Adr)(df:List Deferred) 
  (hg:DD l T.size=true) (hkl:Fh l kill=true) (ds:List Tmp) (hds:slotsW l=ds) (hC:∀n m,n<l.length->m<l.length->n≠m->((AT l []).getD n 0).testBit m=false->∀w w',C m w->R n w w' ->C m w') (hE:∀n listed w w',n<l.length->listed.size=l.length->¬On listed n->(∀i k,On listed i\/i=n->((AT l []).getD i 0).testBit k=true->On listed k)->E listed w->R n w w' ->E (listed.setIfInBounds n true) w') (hΦ:∀n i,n<l.length->i<l.length->i∉kill n->i≠n->((AT l []).getD i 0).testBit n=false->∀v w w',Φ i v w->R n w w' ->Φ i v w') (hRr:∀n o w,l[n]? =some o->o.guard.isSome=true->R n w w)
  (h0:∀n,n<l.length->C n { w with drawn:=w.drawn+1 }) (h1:E (Afc l.toArray.size false) { w with drawn:=w.drawn+1 })
  (hs:StepsOk P l C R Φ T 0 l)
  (hQ:∀(u:Tmp->Adr) listed w',(∀i,i<l.length->On listed i)->E listed w' ->C1 l kill Φ u w' ds->Q .normal { tmps:=DU T ds u,defers:=df } w'):(Code.region id l.toArray true).wp P Q { tmps:=T,defers:=df } w:=by
 have g:=Hr hg;refine wp_region_any hm (XS (a0:= { tmps:=T,defers:=df }) g hkl hC hE hΦ hRr hs (fun listed a' w' hon h=> ?_) _ _ _ _ (by simp) ?_)
 ·exact XT T df ds hds hQ listed a' w' hon h
 ·have hno:∀i,¬On (Afc l.toArray.size false) i:=fun i h=>by
   unfold On at h;rw[Ad8,Afm]at h;split at h <;> simp at h
  exact⟨Array.size_replicate,fun i o _ h=>absurd h (hno i),rfl,rfl,fun n hn _=>h0 n hn,h1,fun t _=>rfl,fun t k o _ _ h=>absurd h (hno k)⟩
theorem G1(kill:Nat->List Nat)(C:Ads->Prop)(R:Nat->Ads->Ads->Prop)(Φ:Nat->BH){id:Nat}{Q:Age->Act->Ads->Prop}{w:Ads}(hm:P.follows .mixedOrders=true)(T:Array Adr)(df:List Deferred) 
  (hg:DD l T.size=true) (hkl:Fh l kill=true) (ds:List Tmp) (hds:slotsW l=ds) (hC:∀n w w',C w->R n w w' ->C w') (hΦ:∀n i,n<l.length->i<l.length->i∉kill n->i≠n->((AT l []).getD i 0).testBit n=false->∀v w w',Φ i v w->R n w w' ->Φ i v w') (hRr:∀n o w,l[n]? =some o->o.guard.isSome=true->R n w w) (h0:C { w with drawn:=w.drawn+1 })
  (hs:StepsOk P l (fun _=>C) R Φ T 0 l)
  (hQ:∀(u:Tmp->Adr) w',C w' ->C1 l kill Φ u w' ds->Q .normal { tmps:=DU T ds u,defers:=df } w'):(Code.region id l.toArray true).wp P Q { tmps:=T,defers:=df } w:=
 LY kill (fun _=>C) (fun _=>C) R Φ hm T df hg hkl ds hds (fun n _ _ _ _ _=>hC n) (fun n _ w w' _ _ _ _=>hC n w w') hΦ hRr (fun _ _=>h0) h0 hs (fun u _ w' _=>hQ u w')
theorem GD{C:Nat->Ads->Prop}{R:Nat->Ads->Ads->Prop}{T:Array Adr}{n:Nat}{o:AdL}(hg:o.guard=none) 
  (h:∀ρ w,C n w->(∀t∈o.looksAt l.toArray,GC l Φ T n t (ρ t) w)->Yk P (fun v w' =>R n w w' /\Φ n v w') ((execOp (Ab ρ) o).run P w)):IT P l C R Φ T n o:=by
 intro ρ w hC hl;have:A9 l o ρ=true:=by unfold A9;rw[hg]
 rw[if_pos this];exact h ρ w hC hl
theorem Yk.value{K:Adr->Ads->Prop}{r:Aig Next}{v:Adr}{w' :Ads}(hr:r = .ok (.value v) w')(h:K v w'):Yk P K r:=by rw[hr];exact h
abbrev AcG:=@Yk.value
theorem Yk.enter{K:Adr->Ads->Prop}{r:Aig Next}{f:Afi}{args:Array Adr}{w' :Ads}(hr:r = .ok (.enter f args) w')(h:Calls P f args w' fun e w'' =>∃v,e = .returned v/\K v w''):Yk P K r:=by rw[hr];exact h
end
def Plain(P:AdM)(f:Afi):Prop:=∀xs w,(callFunc f xs).run P w = .ok (.enter f xs) w
theorem IV{P:AdM}{f:Afi}(hp:Plain P f)(ρ:AdC->Adr)(args:List AdC)(at_:Array Ady)(dst:Option Tmp)(ty:Ady)(pos:String)(af:Array Aej)(gd:Option (Nat × Bool))(w:Ads) 
  (hρ:ρ (.func f) = .func (.func f) #[] #[]):(execOp ρ ⟨dst, .call ⟨.value (.func f),args.toArray,at_⟩,ty,pos,af,gd⟩).run P w = .ok (.enter f (args.map ρ).toArray) w:=by
 simp[execOp,resolve,invoke,Deferred.ofValue,hρ,hp _ w]
theorem Yk.call{P:AdM}{K:Adr->Ads->Prop}{f:Afi}(hp:Plain P f){ρ:Tmp->Adr}{args:List AdC}{at_:Array Ady}{dst:Option Tmp}{ty:Ady}{pos:String}{af:Array Aej}{gd:Option (Nat × Bool)}{w:Ads} 
  (h:Calls P f (args.map (Ab ρ)).toArray w fun e w'' =>∃v,e = .returned v/\K v w''):Yk P K ((execOp (Ab ρ) ⟨dst, .call ⟨.value (.func f),args.toArray,at_⟩,ty,pos,af,gd⟩).run P w):=
 Yk.enter (IV hp (Ab ρ) args at_ dst ty pos af gd w rfl) h
def Stab(R:Ads->Ads->Prop)(φ:BH):Prop:=∀v w w',φ v w->R w w' ->φ v w'
theorem ZW{R:Ads->Ads->Prop}(v:Adr):Stab R (Is v):=fun _ _ _ h _=>h
theorem Stab.any{R:Ads->Ads->Prop}:Stab R (fun _ _=>True):=fun _ _ _ _ _=>trivial
def AllStab(R:Ads->Ads->Prop):List BH->Prop
 | []=>True
 | φ :: r=>Stab R φ/\AllStab R r
theorem Zk{R:Ads->Ads->Prop}{a b:Adr}{Φs:List BH}(h:AllStab R Φs):AllStab R (Is a :: Is b :: Φs):=⟨ZW _,ZW _,h⟩
theorem XU{R:Ads->Ads->Prop}{a b c e:Adr}{Φs:List BH}(h:AllStab R Φs):AllStab R (Is a :: Is b :: Is c :: Is e :: Φs):=⟨ZW _,ZW _,ZW _,ZW _,h⟩
theorem Zl{R:Ads->Ads->Prop}{a b c e f:Adr}{Φs:List BH}(h:AllStab R Φs):AllStab R (Is a :: Is b :: Is c :: Is e :: Is f :: Φs):=⟨ZW _,ZW _,ZW _,ZW _,ZW _,h⟩
theorem ZA{R:Ads->Ads->Prop}{a b c e f g:Adr}{Φs:List BH}(h:AllStab R Φs):AllStab R (Is a :: Is b :: Is c :: Is e :: Is f :: Is g :: Φs):=⟨ZW _,ZW _,ZW _,ZW _,ZW _,ZW _,h⟩
theorem ZB{R:Ads->Ads->Prop}{a b c e f g i:Adr}{Φs:List BH}(h:AllStab R Φs):AllStab R (Is a :: Is b :: Is c :: Is e :: Is f :: Is g :: Is i :: Φs):=⟨ZW _,ZW _,ZW _,ZW _,ZW _,ZW _,ZW _,h⟩
theorem Zr{R:Ads->Ads->Prop}{a b c e f g i j k l:Adr}{Φs:List BH}(h:AllStab R Φs):AllStab R (Is a :: Is b :: Is c :: Is e :: Is f :: Is g :: Is i :: Is j :: Is k :: Is l :: Φs):=⟨ZW _,ZW _,ZW _,ZW _,ZW _,ZW _,ZW _,ZW _,ZW _,ZW _,h⟩
theorem UK{R:Ads->Ads->Prop}{a b c e f g i j k l m n:Adr}{Φs:List BH}(h:AllStab R Φs):AllStab R (Is a :: Is b :: Is c :: Is e :: Is f :: Is g :: Is i :: Is j :: Is k :: Is l :: Is m :: Is n :: Φs):=⟨ZW _,ZW _,ZW _,ZW _,ZW _,ZW _,ZW _,ZW _,ZW _,ZW _,ZW _,ZW _,h⟩
theorem AllStab.get{R:Ads->Ads->Prop}:∀(Φs:List BH),AllStab R Φs->∀i,Stab R (Φs.getD i (fun _ _=>True))
 | [],_,i=>by simpa using Stab.any
 | φ :: r,h,0=>h.1
 | φ :: r,h,i+1=>by simpa using AllStab.get r h.2 i
def CX(Φs:List BH)(i:Nat):BH:=Φs.getD i (fun _ _=>True)
def Ext(w w' :Ads):Prop:=Below w.heap.size w w'
theorem Ext.refl(w:Ads):Ext w w:=Aeo _ _
abbrev Acz:=@Ext.refl
theorem Ext.trans{a b c:Ads}(h:Ext a b)(k:Ext b c):Ext a c:=Below.trans h (k.mono h.size)

theorem Nr{P:AdM}{l:List AdL}(Φs:List BH){id:Nat}{Q:Age->Act->Ads->Prop}{w:Ads}(hm:P.follows .mixedOrders=true)(T:Array Adr)(df:List Deferred) 
  (hg:DD l T.size=true) (ds:List Tmp) (hds:slotsW l=ds) (hst:AllStab Ext Φs) (hs:StepsOk P l (fun _=>Ext w) (fun _=>Ext) (CX Φs) T 0 l)
  (hQ:∀(u:Tmp->Adr) w',Ext w w' ->C1 l (fun _=> []) (CX Φs) u w' ds->Q .normal { tmps:=DU T ds u,defers:=df } w'):(Code.region id l.toArray true).wp P Q { tmps:=T,defers:=df } w:=
 G1 (fun _=> []) (Ext w) (fun _=>Ext) (CX Φs) hm T df hg
  (by unfold Fh;simp) ds hds (fun _ _ _ h k=>h.trans k) (fun _ i _ _ _ _ _=>hst.get Φs i) (fun _ _ w _ _=>Acz w) (Aeo _ _).drew hs hQ
theorem Aam{n i:Nat}:¬On (Afc n false) i:=fun h=>by
 unfold On at h;rw[Ad8,Afm]at h;split at h <;> simp at h
theorem LZ{P:AdM}{l:List AdL}(ks:List Nat)(kill:Nat->List Nat)(C:Ads->Prop)(Rk:Ads->Ads->Prop)(Φs:List BH){id:Nat}{Q:Age->Act->Ads->Prop}{w:Ads}(hm:P.follows .mixedOrders=true)(T:Array Adr)(df:List Deferred) 
  (hg:DD l T.size=true) (hkl:Fh l kill=true) (ds:List Tmp) (hds:slotsW l=ds) (hC:∀w w',C w->Ext w w' ->C w') (hCk:∀w w',C w->Rk w w' ->C w') (hRk:∀w,Rk w w) (h0:C w.drew) (hst:AllStab Ext Φs)
  (hsk:∀n i,n∈ks->i<l.length->i∉kill n->i≠n->((AT l []).getD i 0).testBit n=false->Stab Rk (CX Φs i))
  (hs:StepsOk P l (fun _=>C) (fun n=>if n∈ks then Rk else Ext) (CX Φs) T 0 l)
  (hQ:∀(u:Tmp->Adr) w',C w' ->C1 l kill (CX Φs) u w' ds->Q .normal { tmps:=DU T ds u,defers:=df } w'):(Code.region id l.toArray true).wp P Q { tmps:=T,defers:=df } w:=by
 refine G1 kill C (fun n=>if n∈ks then Rk else Ext) (CX Φs) hm T df hg hkl ds hds (fun n w w' h k=> ?_) (fun n i _ hi hk hne hb=> ?_) (fun n _ w _ _=> ?_) h0 hs hQ
 ·by_cases hn:n∈ks
  ·rw[if_pos hn]at k;exact hCk _ _ h k
  ·rw[if_neg hn]at k;exact hC _ _ h k
 ·by_cases hn:n∈ks
  ·rw[if_pos hn];exact hsk n i hn hi hk hne hb
  ·rw[if_neg hn];exact hst.get Φs i
 ·by_cases hn:n∈ks
  ·rw[if_pos hn];exact hRk w
  ·rw[if_neg hn];exact Acz w
variable {P : AdM}
theorem NQ{w:Ads}{src dst e:Ady}(hs:P.underlying src=some (.slice e))(he:P.underlying e=some (.int .u8))(hd:P.underlying dst=some .string){v:Adr}{l:Ai1}(h:RB w v l):
  (convert src dst v).run P w = .ok (.string ⟨l.toArray⟩) w:=by
 obtain⟨h1,ao,cap,rfl,h2,h3,h4,h5⟩:=h;cases ao with
 | none=>
  obtain⟨h6,rfl⟩:=h4 rfl;have:l= []:=Aep h6;subst this;rw[run_convert_bytes_string w src dst e _ _ _ hs he hd];simp[Conv.bytesToString,AdF];rfl
 | some a=>exact run_convert_bytes_back w src dst e a cap l hs he hd (fun j hj=>h5 a rfl j _ (by simp[Adv,hj]))
theorem Pu{ops:Array AdL}{rest:List AdL}{o:AdL}{a:Act}{w:Ads}{Q:Age->Act->Ads->Prop}(hgd:o.guard=none)(src dst:Ady)(x:AdC)(ho:o.op = .convert src dst x) 
  {e:Ady} (hs:P.underlying src=some (.slice e)) (he:P.underlying e=some (.int .u8)) (hd:P.underlying dst=some .string) (v:Adr) (l:Ai1) (hx:a.eval x=v) (h:RB w v l)
  (hK:wpList P ops Q rest (a.put o.dst (.string ⟨l.toArray⟩)) w):wpList P ops Q (o :: rest) a w:=
 wpList_plain hgd fun K hK' =>by
  have hr:=NQ (P:=P) hs he hd h;unfold AfG execOp;simp only[ho,hx,hr,AdB,AdF,AdA];exact hK' _ _ hK
theorem NR(a b:Ai1):(⟨a.toArray⟩:ByteArray)++⟨b.toArray⟩=⟨(a++b).toArray⟩:=by
 apply ByteArray.ext
 rw[ByteArray.data_append];simp
theorem Ab1{K:Adr->Ads->Prop}{ρ:Tmp->Adr}{t ty2:Ady}{x y:AdC}{d:Option Tmp}{ty:Ady}{pos:String}{af:Array Aej}{gd:Option (Nat × Bool)}{w:Ads}{l1 l2:Ai1} 
  (hx:Ab ρ x = .string ⟨l1.toArray⟩) (hy:Ab ρ y = .string ⟨l2.toArray⟩) (hb:l1.length+l2.length<=9223372036854775807) (hk:K (.string ⟨(l1++l2).toArray⟩) w):Yk P K ((execOp (Ab ρ) ⟨d, .binOp .add t x y ty2,ty,pos,af,gd⟩).run P w):=by
 refine AcG (v:= .string ⟨(l1++l2).toArray⟩) (w' :=w) ?_ hk;have hr:=run_string_add_sum (P:=P) (w:=w) ⟨l1.toArray⟩ ⟨l2.toArray⟩ (show l1.toArray.size+l2.toArray.size<=_ from hb);rw[NR]at hr;simp[execOp,hx,hy,eqGuard,binOp,hr]
theorem Yk.append{K:Adr->Ads->Prop}{ρ:Tmp->Adr}(s x:AdC){t tx:Ady}{d:Option Tmp}{ty:Ady}{pos:String}{af:Array Aej}{gd:Option (Nat × Bool)}{w:Ads} 
  (base:Nat) (e:Ady) (z:Adr) (size bytes:Nat) (ht:P.underlying t=some (.slice e)) (hi:(P.info? e).map (fun i=>(i.zero,i.size,i.bytes))=some (some z,size,bytes)) (hzs:z.cells.size=size)
  (n:Nat) (xs:List Adr) (hown:w.ownsRow base e size (Ab ρ s) n xs) (m:Nat) (news:List Adr) (hsrc:Src P size tx (Ab ρ x) m news w)
  (h63:n+m<=maxLen) (hbytes:(n+m)*bytes<=140737488355328) (hbase:base<=w.heap.size)
  (h:∀v' w',w'.ownsRow base e size v' (n+m) (xs++news)->Grew w w' (Ab ρ s) v' ->K v' w'):
  Yk P K ((execOp (Ab ρ) ⟨d, .call ⟨.builtin .append,[s,x].toArray,[t,tx].toArray⟩,ty,pos,af,gd⟩).run P w):=by
 obtain⟨i,hi,hz,hsize,hby⟩:=info_parts hi;obtain⟨v',w',hr,h2,h3⟩:=FD (P:=P) w base t tx ty e i z size bytes ht hi hz hsize hby hzs (Ab ρ s) n xs hown (Ab ρ x) m news hsrc h63 hbytes hbase;refine AcG (v:=v') (w' :=w') ?_ (h v' w' h2 h3);unfold execOp;simp only[resolve,invoke,builtin,AdB,AdF,AdA,AdH,AdK,AdO,hr]
theorem Stab.rb(l:Ai1):Stab Ext (fun x w=>RB w x l):=fun _ _ _ h k=>h.keep k
theorem Ext.grown{w w' :Ads}(h:Ext w w'):w.grownBy w' none:=⟨h.os,h.tape,h.output,h.size,fun k hk _=>h.block k hk⟩
theorem Ab2{w w' :Ads}(h:w.grownBy w' none):Ext w w' :=(Aeo _ _).grown h (Adw _) (fun k hk=>by cases hk)
theorem Stab.own(base:Nat)(e:Ady)(size:Nat)(n:Nat)(xs:List Adr):Stab Ext (fun x w=>w.ownsRow base e size x n xs):=fun v _ _ h k=>h.kept k.grown (by cases v.ownBlock <;> simp)
abbrev AcU:=@Stab.own
theorem NewB.ext{e:Ady}{w w' :Ads}{v:Adr}{l:Ai1}(h:NewB e w w' v l):Ext w w' :=h.below

theorem Aay{w w' :Ads}(h:Ext w w'){b:Nat}{o:Obj}(hb:w.heap[b]? =some o):w'.heap[b]? =some o:=
 (h.block b (Aef.1 hb).1).trans hb
theorem eb{w w' :Ads}(h:Ext w w'){b:Nat}{o:Obj}(hb:w.heap[b]? =some o):w'.heap[b]? =some o:=Aay h hb
theorem Ach{K:Adr->Ads->Prop}{ρ:Tmp->Adr}(s x:AdC){dT sT elem:Ady}{d:Option Tmp}{ty:Ady}{pos:String}{af:Array Aej}{gd:Option (Nat × Bool)}{w:Ads} 
  (hu:P.underlying dT=some (.slice elem)) (hsz:(P.info? elem).map (·.size)=some 1) {g o dLen dCap:Nat} (hs:Ab ρ s = .slice (some ⟨g,o,none⟩) dLen dCap) {l:Ai1} (hx:RB w (Ab ρ x) l)
  {cur:Array Adr} {t:Ady} (hg:w.heap[g]? =some (.cells cur t (0,0))) (hfit:o+Af9 l.length dLen<=cur.size)
  (h:K (goInt (Af9 l.length dLen)) (w.setRow g (cur.toList.take o++Adv (l.take dLen)++cur.toList.drop (o+Af9 l.length dLen)).toArray)):
  Yk P K ((execOp (Ab ρ) ⟨d, .call ⟨.builtin .copy,[s,x].toArray,[dT,sT].toArray⟩,ty,pos,af,gd⟩).run P w):=by
 obtain⟨h1,ao,cap,hv,h2,h3,h4,h5⟩:=hx;have hlen:(Adv (l.take dLen)).length=Af9 l.length dLen:=by rw[AdG,AdS];exact Nat.min_comm _ _
 refine AcG (v:=goInt (Af9 l.length dLen)) (w' :=w.setRow g (cur.toList.take o++Adv (l.take dLen)++cur.toList.drop (o+Af9 l.length dLen)).toArray) ?_ h;have hrun:(Builtin.copy_ #[dT,sT] ty #[.slice (some ⟨g,o,none⟩) dLen dCap, .slice ao l.length cap]).run P w = .ok (goInt (Af9 l.length dLen)) (w.setRow g (cur.toList.take o++Adv (l.take dLen)++cur.toList.drop (o+Af9 l.length dLen)).toArray):=by
  cases ao with
  | none=>
   obtain⟨h6,rfl⟩:=h4 rfl;have:l= []:=Aep h6;subst this;have hr:=run_copy_nil (P:=P) w dT sT ty elem ⟨g,o,none⟩ dLen dCap hu (by rw[hsz];rfl);have e:(cur.toList.take o++Adv ([].take dLen)++cur.toList.drop (o+Af9 ([]:Ai1).length dLen)).toArray=cur:=by
    simp[Adv]
   rw[e,setRow_self w g cur t (0,0) hg]
   simpa using hr
  | some a=>
   have hr:=run_copy_row (P:=P) w dT sT ty elem g o dLen dCap a l.length cap cur t (Adv (l.take dLen)) hu hsz hg hlen (fun j v hj=>h5 a rfl j v (by
    have hj' :=hj;simp only[Adv,Ahh,Afw]at hj';split at hj'
    ·exact hj'
    ·cases hj')) (by rw[hlen];exact hfit) (Ay _)
   rw[hlen]at hr;exact hr
 unfold execOp;simp only[resolve,invoke,builtin,AdB,AdF,AdA,AdH,AdK,AdO,hs,hv,hrun]
theorem IW{ops:Array AdL}{rest:List AdL}{o:AdL}{a:Act}{w:Ads}{Q:Age->Act->Ads->Prop}(hgd:o.guard=none)(v:Adr)(w' :Ads)(hr:(execOp a.eval o).run P w = .ok (.value v) w') 
  (h:wpList P ops Q rest (a.put o.dst v) w'):wpList P ops Q (o :: rest) a w:=
 wpList_plain hgd fun K hK=>by
  unfold AfG;rw[hr];exact hK _ _ h
/-! ### Whole arrays and structs in blocks of their own -/
theorem G2(w:Ads)(g:Nat)(ty:Ady)(cells cur:Array Adr)(t:Ady)(hg:w.heap[g]? =some (.cells cur t (0,0)))(hs:cells.size=cur.size)(hi:(P.info? ty).map (·.size)=some cells.size)(h1:∀v∈cells.toList,v.oneCell' =true):
  (Agx ty (.pointer (some ⟨g,0,none⟩)) (.agg cells)).run P w = .ok () (w.setRow g cells):=by
 have hst:=run_storeCells_at P g 0 t cells.toList 0 cur w hg (by simp[hs]) h1;have e:(cur.toList.take (0+0)++cells.toList++cur.toList.drop (0+0+cells.toList.length)).toArray=cells:=by
  simp;rw[List.drop_of_length_le (by simp[hs])];simp
 rw[e]at hst;cases hq:P.info? ty with
 | none=>simp[hq]at hi
 | some i=>
  have hs:cells.size=i.size:=by simp[hq]at hi;omega
  simp[Agx,Af0,storeVar,sizeOf,typeInfo,hq,Value.cells,hs,hst]
theorem KB{ops:Array AdL}{rest:List AdL}{o:AdL}{a:Act}{w:Ads}{Q:Age->Act->Ads->Prop}(hgd:o.guard=none)(ty:Ady)(x y:AdC)(ho:o.op = .store ty x y) 
  (g:Nat) (hx:a.eval x = .pointer (some ⟨g,0,none⟩)) (cells cur:Array Adr) (t:Ady) (hy:a.eval y = .agg cells) (hg:w.heap[g]? =some (.cells cur t (0,0))) (hs:cells.size=cur.size) (hi:(P.info? ty).map (·.size)=some cells.size) (h1:∀v∈cells.toList,v.oneCell' =true)
  (h:wpList P ops Q rest (a.put o.dst undef) (w.setRow g cells)):wpList P ops Q (o :: rest) a w:=
 wpList_plain hgd fun K hK=>by
  have hr:=G2 (P:=P) w g ty cells cur t hg hs hi h1;unfold AfG execOp;simp only[ho,hx,hy,hr,AdB,AdF,AdA];exact hK _ _ h
theorem Gk{ops:Array AdL}{rest:List AdL}{o:AdL}{a:Act}{w:Ads}{Q:Age->Act->Ads->Prop}(hgd:o.guard=none)(ty:Ady)(x y:AdC)(ho:o.op = .store ty x y) 
  (g:Nat) (hx:a.eval x = .pointer (some ⟨g,0,none⟩)) (cells:Array Adr) (t:Ady) (hy:a.eval y = .agg cells) (hg:w.heap[g]? =some (.cells cells t (0,0))) (hi:(P.info? ty).map (·.size)=some cells.size) (h1:∀v∈cells.toList,v.oneCell' =true)
  (h:wpList P ops Q rest (a.put o.dst undef) w):wpList P ops Q (o :: rest) a w:=
 KB hgd ty x y ho g hx cells cells t hy hg rfl hi h1 (by rw[setRow_self w g cells t (0,0) hg];exact h)
theorem IL{fn:Func}{p q r:Tmp}{ty:Ady}(h:fn.results = #[.cell p ty, .tmp q, .tmp r])(tmps:Array Adr)(w:Ads)(g:Nat)(t:Ady)(cs:Array Adr)(fr:Nat × Nat)(d:TypeDesc) 
  (hp:tmps.getD p undef = .pointer (some ⟨g,0,none⟩)) (hg:w.heap[g]? =some (.cells cs t fr))
  (hu:P.underlying ty=some d) (hd:(match d with | .struct _ | .array _ _=>true | _=>false)=true) (hi:(P.info? ty).map (·.size)=some cs.size):
  (results fn tmps).run P w = .ok (.tuple #[.agg cs,tmps.getD q undef,tmps.getD r undef]) w:=by
 have hp' :tmps[p]?.getD undef = .pointer (some ⟨g,0,none⟩):=by simpa using hp
 simp[results,h,hp',asAddr,run_loadVar_row w g t ty cs fr d hg hu hd hi]
/-! ### Slices of slices -/
theorem GE(a:Addr)(m n:Nat):(a.add m).add n=a.add (m+n):=by
 cases a with
 | mk b o sp=>
  unfold AfP;split <;> split <;> simp_all
  all_goals (try omega)
theorem CO{t e:Ady}{size:Nat}(ht:P.underlying t=some (.slice e))(he:∀w' :Ads,(sizeOf e).run P w' = .ok size w'){w:Ads}{v:Adr}{n:Nat}{xs:List Adr}(hr:Reads w size v n xs)(lo hi:Option Adr)(l h:Nat)(hlh:l<=h)(hn:h<=n) 
  (hlo:lo=none/\l=0\/∃k,lo=some (.int k l)) (hhi:hi=none/\h=n\/∃k,hi=some (.int k h)):
  ∃ao c,((AfR t v lo hi none).run P w = .ok (.slice ao (h-l) c) w/\(Value.slice ao (h-l) c).ownBlock=v.ownBlock)/\Reads w size (.slice ao (h-l) c) (h-l) ((xs.drop (l*size)).take ((h-l)*size)):=by
 obtain⟨h1,ao,cap,rfl,h2,h3,h4,h5⟩:=hr;have hE:P.elem t=e:=by simp[Program.elem,ht]
 have ht' :P.underlying t=some (.slice (P.elem t)):=by rw[hE];exact ht
 refine⟨if cap=l then ao else ao.map (·.add (l*size)),cap-l,⟨?_,?_⟩,?_,_,_,rfl,by omega,by omega,?_,?_⟩
 ·rw[run_sliceAt_slice (P:=P) w t _ _ _ _ ht'];have hl' :(l:Int)<=(h:Int):=by omega
  have hh' :(h:Int)<=(cap:Int):=by omega
  have hn' :(l:Int)<=(n:Int):=by omega
  rcases hlo with ⟨rfl,rfl⟩ | ⟨k,rfl⟩ <;> rcases hhi with ⟨rfl,rfl⟩ | ⟨k',rfl⟩
  ·rw[run_slice_all (P:=P) w t ao h cap ht',hE,he];simp[Aek,sliced]
  ·rw[run_slice_h (P:=P) w t ao n cap ht' k' h (by omega) hh',hE,he];simp[Aek,sliced]
  ·rw[run_slice_l (P:=P) w t ao h cap ht' k l (by omega) hl',hE,he];simp[Aek,sliced]
  ·rw[run_slice_lh (P:=P) w t ao n cap ht' k k' l h (by omega) hl' hh',hE,he];simp[Aek,sliced]
 ·cases ao with
  | none=>simp[Aec]
  | some x=>
   split
   ·rfl
   ·simp only[AeT,Aec,AeZ];unfold AfP;split <;> rfl
 ·rw[AdS,AdT,h1];have:(h-l)*size<=n*size-l*size:=by rw[<-Nat.sub_mul];exact AfU _ (by omega)
  omega
 ·intro hnone;have:ao=none:=by
   cases ao with
   | none=>rfl
   | some x=>split at hnone <;> simp at hnone
  obtain⟨h6,h7⟩:=h4 this;omega
 ·intro a ha j u hu;have hj:j<((xs.drop (l*size)).take ((h-l)*size)).length:=(AdR.1 hu).1;have hj2:j<(h-l)*size:=by rw[AdS]at hj;omega
  have hhl:h-l≠0:=fun e=>by rw[e]at hj2;simp at hj2
  rw[if_neg (by omega)]at ha;cases ao with
  | none=>simp at ha
  | some x=>
   simp at ha;subst ha;rw[GE];refine h5 x rfl _ _ ?_;rw[Afw,if_pos hj2,AfK]at hu;exact hu
theorem J4{t e:Ady}{size:Nat}(ht:P.underlying t=some (.slice e))(he:∀w' :Ads,(sizeOf e).run P w' = .ok size w'){w:Ads}{v:Adr}{n:Nat}{xs:List Adr}(hr:Reads w size v n xs)(lo hi:Option Adr)(l h:Nat)(hlh:l<=h)(hn:h<=n) 
  (hlo:lo=none/\l=0\/∃k,lo=some (.int k l)) (hhi:hi=none/\h=n\/∃k,hi=some (.int k h)):
  ∃ao c,(AfR t v lo hi none).run P w = .ok (.slice ao (h-l) c) w/\Reads w size (.slice ao (h-l) c) (h-l) ((xs.drop (l*size)).take ((h-l)*size)):=by
 obtain⟨ao,c,h1,h2⟩:=CO ht he hr lo hi l h hlh hn hlo hhi;exact⟨ao,c,h1.1,h2⟩
theorem AaY{w:Ads}{v:Adr}{xs:Ai1}{l h:Nat}(hn:h<=xs.length)(hR:Reads w 1 v (h-l) (((Adv xs).drop (l*1)).take ((h-l)*1))):RB w v ((xs.drop l).take (h-l)):=by
 have a:((xs.drop l).take (h-l)).length=h-l:=by rw[AdS,AdT];omega
 unfold RB;rw[a];have b:Adv ((xs.drop l).take (h-l))=((Adv xs).drop (l*1)).take ((h-l)*1):=by
  simp[Adv,Ahh,Ais]
 rw[b];exact hR
theorem RB.kept{w w' :Ads}{v:Adr}{l:Ai1}(h:RB w v l){row:Option Nat}(hg:w.grownBy w' row)(hv:v.ownBlock=none\/v.ownBlock≠row):RB w' v l:=by
 obtain⟨h1,ao,cap,rfl,h2,h3,h4,h5⟩:=h;refine⟨h1,ao,cap,rfl,h2,h3,h4,fun a ha j u hu=> ?_⟩;have hc:=h5 a ha j u hu;subst ha;have hlt:=AeD w _ hc;have hbl:(a.add j).block=a.block:=by unfold AfP;split <;> rfl
 have hne:(some a.block)≠row:=by
  rcases hv with hv | hv
  ·cases hv
  ·exact hv
 rw[hbl]at hlt;rw[World.cell?_of_block (w:=w) (by rw[hbl];exact hg.block a.block hlt hne)];exact hc
theorem J7{t e:Ady}(ht:P.underlying t=some (.slice e))(he:∀w' :Ads,(sizeOf e).run P w' = .ok 1 w'){w:Ads}{v:Adr}{xs:Ai1}(hr:RB w v xs)(lo hi:Option Adr)(l h:Nat)(hlh:l<=h)(hn:h<=xs.length) 
  (hlo:lo=none/\l=0\/∃k,lo=some (.int k l)) (hhi:hi=none/\h=xs.length\/∃k,hi=some (.int k h)):
  ∃ao c,(AfR t v lo hi none).run P w = .ok (.slice ao (h-l) c) w/\RB w (.slice ao (h-l) c) ((xs.drop l).take (h-l)):=by
 obtain⟨ao,c,hrun,hR⟩:=J4 ht he hr lo hi l h hlh hn hlo hhi;refine⟨ao,c,hrun,?_⟩;have a:((xs.drop l).take (h-l)).length=h-l:=by rw[AdS,AdT];omega
 unfold RB;rw[a];have b:Adv ((xs.drop l).take (h-l))=((Adv xs).drop (l*1)).take ((h-l)*1):=by
  simp[Adv,Ahh,Ais]
 rw[b];exact hR
theorem Hs{ops:Array AdL}{rest:List AdL}{o:AdL}{a:Act}{w:Ads}{Q:Age->Act->Ads->Prop}(hgd:o.guard=none)(t:Ady)(x:AdC)(lo hi:Option AdC)(ho:o.op = .slice t x lo hi none) 
  {e:Ady} (ht:P.underlying t=some (.slice e)) (he:∀w' :Ads,(sizeOf e).run P w' = .ok 1 w') (v:Adr) (xs:Ai1) (hx:a.eval x=v) (hr:RB w v xs) (l h:Nat) (hlh:l<=h) (hn:h<=xs.length)
  (hlo:lo.map a.eval=none/\l=0\/∃k,lo.map a.eval=some (.int k l)) (hhi:hi.map a.eval=none/\h=xs.length\/∃k,hi.map a.eval=some (.int k h))
  (hK:∀ao c,RB w (.slice ao (h-l) c) ((xs.drop l).take (h-l))->wpList P ops Q rest (a.put o.dst (.slice ao (h-l) c)) w):wpList P ops Q (o :: rest) a w:=
 wpList_plain hgd fun K hK' =>by
  obtain⟨ao,c,hrun,hR⟩:=J7 ht he hr (lo.map a.eval) (hi.map a.eval) l h hlh hn hlo hhi;unfold AfG execOp;simp only[ho,hx,Afq,hrun,AdB,AdF,AdA];exact hK' _ _ (hK ao c hR)
theorem RB.open_{w:Ads}{v:Adr}{l:Ai1}(h:RB w v l)(hl:0<l.length):∃b off cap,v = .slice (some ⟨b,off,none⟩) l.length cap/\l.length<=cap/\cap<=9223372036854775807/\b<w.heap.size/\∀i,i<l.length->w.cell? ⟨b,off+i,none⟩=some (.int .u8 ((l.getD i 0).toNat:Int)):=by
 obtain⟨h1,ao,cap,rfl,h2,h3,h4,h5⟩:=h;cases ao with
 | none=>have:=(h4 rfl).1;omega
 | some a=>
  obtain⟨b,off,sp⟩:=a;have hc:∀i,i<l.length->w.cell? ((⟨b,off,sp⟩:Addr).add i)=some (.int .u8 ((l.getD i 0).toNat:Int)):=fun i hi=>h5 _ rfl i _ (by simp[Adv,hi]);have hsp:sp=none:=by
   have:=hc 0 hl
   simpa [AfP] using World.cell?_spot this
  subst hsp;refine⟨b,off,cap,rfl,h2,by simpa [maxLen] using h3,AeD w _ (hc 0 hl),fun i hi=> ?_⟩;have:=hc i hi
  rwa [Ae0]at this
theorem AbQ{K:Adr->Ads->Prop}{ρ:Tmp->Adr}{t e:Ady}{x:AdC}{lo hi:Option AdC}{d:Option Tmp}{ty:Ady}{pos:String}{af:Array Aej}{gd:Option (Nat × Bool)}{w:Ads} 
  (ht:P.underlying t=some (.slice e)) (he:∀w' :Ads,(sizeOf e).run P w' = .ok 1 w') {xs:Ai1} (hr:RB w (Ab ρ x) xs) (l h:Nat) (hlh:l<=h) (hn:h<=xs.length)
  (hlo:lo.map (Ab ρ)=none/\l=0\/∃k,lo.map (Ab ρ)=some (.int k l)) (hhi:hi.map (Ab ρ)=none/\h=xs.length\/∃k,hi.map (Ab ρ)=some (.int k h))
  (hK:∀ao c,RB w (.slice ao (h-l) c) ((xs.drop l).take (h-l))->K (.slice ao (h-l) c) w):Yk P K ((execOp (Ab ρ) ⟨d, .slice t x lo hi none,ty,pos,af,gd⟩).run P w):=by
 obtain⟨ao,c,hrun,hR⟩:=J7 ht he hr (lo.map (Ab ρ)) (hi.map (Ab ρ)) l h hlh hn hlo hhi;refine AcG (v:= .slice ao (h-l) c) (w' :=w) ?_ (hK ao c hR);unfold execOp;simp only[Afq,hrun,AdB,AdF,AdA]
abbrev Aj:=Tmp->Adr
def NS(ρ:Aj)(d:Tmp)(v:Adr):Aj:=fun t=>cond (AgK t d) v (ρ t)
def updO(ρ:Aj)(d:Option Tmp)(v:Adr):Aj:=match d with
 | none=>ρ
 | some d=>NS ρ d v
structure Fits (n : Nat) (ρ : Aj) (a : Act) : Prop where
 size:a.tmps.size=n
 defers:a.defers= []
 get:∀t,a.tmps.getD t undef=ρ t
theorem Fits.eval{n:Nat}{ρ:Aj}{a:Act}(h:Fits n ρ a):a.eval=Ab ρ:=by
 funext x
 cases x with
 | tmp t=>exact h.get t
 | _=>rfl
theorem Fits.put{n:Nat}{ρ:Aj}{a:Act}(h:Fits n ρ a)(d:Option Tmp)(hd:∀t,d=some t->t<n)(v:Adr):Fits n (updO ρ d v) (a.put d v):=by
 cases d with
 | none=>exact h
 | some d=>
  have hdn:=hd d rfl;refine⟨by simp[Act.put,h.size],h.defers,fun t=> ?_⟩;have hg:=h.get t;simp only[updO,NS,Act.put,Ad8,Array.getElem?_setIfInBounds,h.size]at hg ⊢;by_cases htd:t=d
  ·subst htd;simp[hdn]
  ·have hb:AgK t d=false:=by
    cases hb:AgK t d with
    | false=>rfl
    | true=>exact absurd (Nat.eq_of_beq_eq_true hb) htd
   rw[hb,if_neg (fun e=>htd e.symm)];exact hg
theorem IX{T:Array Adr}{d:Nat}{b:Bool}(h:T.getD d undef = .bool b):T[d]? =some (.bool b):=by
 rw[Ad8]at h;cases hx:T[d]? with
 | none=>rw[hx]at h;cases h
 | some x=>rw[hx]at h;simp at h;rw[h]
abbrev Bi:=Age->Aj->Ads->Prop
def Cm(P:AdM)(n:Nat)(c:Code)(Q:Bi)(ρ:Aj)(w:Ads):Prop:=
 ∀a,Fits n ρ a->c.wp P (fun e a' w' =>∃ρ',Fits n ρ' a' /\Q e ρ' w') a w
def EE(K:Aj->Ads->Prop)(Q:Bi):Bi
 | .normal,ρ,w=>K ρ w
 | e,ρ,w=>Q e ρ w
def C2(id:Nat)(Q:Bi):Bi
 | .exit id',ρ,w=>if id' =id then Q .normal ρ w else Q (.exit id') ρ w
 | e,ρ,w=>Q e ρ w
def P6(Q:Bi):Bi
 | .goto _,_,_=>False
 | e,ρ,w=>Q e ρ w
section
variable {P : AdM} {n : Nat} {Q : Bi} {ρ : Aj} {w : Ads}
theorem wpF_mono{c:Code}{Q' :Bi}(h:Cm P n c Q ρ w)(hq:∀e ρ w,Q e ρ w->Q' e ρ w):Cm P n c Q' ρ w:=
 fun a ha=>wp_mono (h a ha) fun e _ w ⟨ρ',hf,hQ⟩=>⟨ρ',hf,hq e ρ' w hQ⟩
theorem GF(h:Q .normal ρ w):Cm P n .skip Q ρ w:=fun _ ha=>wp_skip ⟨ρ,ha,h⟩
theorem UL{id:Nat}(h:Q (.exit id) ρ w):Cm P n (.exit id) Q ρ w:=fun _ ha=>wp_exit ⟨ρ,ha,h⟩
theorem WR(h:Q .ret ρ w):Cm P n .ret Q ρ w:=fun _ ha=>wp_ret ⟨ρ,ha,h⟩
theorem P7{x y:Code}(h:Cm P n x (EE (Cm P n y Q) Q) ρ w):Cm P n (.seq x y) Q ρ w:=fun a ha=>
 wp_seq (wp_mono (h a ha) fun e a' w' ⟨ρ',hf,hQ⟩=>by
  cases e with
  | normal=>exact hQ a' hf
  | _=>exact⟨ρ',hf,hQ⟩)
theorem sk{x y:Code}(h:∀K:Aj->Ads->Prop,(∀ρ w,Cm P n y Q ρ w->K ρ w)->Cm P n x (EE K Q) ρ w):Cm P n (.seq x y) Q ρ w:=P7 (h _ fun _ _ h=>h)
theorem GG{c:AdC}{x y:Code}(hc:Ab ρ c = .bool true)(h:Cm P n x Q ρ w):Cm P n (.cond c x y) Q ρ w:=fun a ha=>wp_cond_true (by rw[ha.eval];exact hc) (h a ha)
theorem El{c:AdC}{x y:Code}(hc:Ab ρ c = .bool false)(h:Cm P n y Q ρ w):Cm P n (.cond c x y) Q ρ w:=fun a ha=>wp_cond_false (by rw[ha.eval];exact hc) (h a ha)
theorem UM{c:AdC}{x y:Code}(p:Prop)[Decidable p](hc:Ab ρ c = .bool (decide p))(h1:p->Cm P n x Q ρ w)(h2:¬p->Cm P n y Q ρ w):Cm P n (.cond c x y) Q ρ w:=by
 by_cases hp:p
 ·exact GG (by rw[hc,decide_eq_true hp]) (h1 hp)
 ·exact El (by rw[hc,decide_eq_false hp]) (h2 hp)
theorem Si{c:AdC}{x y:Code}(b:Bool)(hc:Ab ρ c = .bool b)(h1:b=true->Cm P n x Q ρ w)(h2:b=false->Cm P n y Q ρ w):Cm P n (.cond c x y) Q ρ w:=by
 cases b
 ·exact El hc (h2 rfl)
 ·exact GG hc (h1 rfl)
theorem Sj{id:Nat}{c:Code}(h:Cm P n c (C2 id Q) ρ w):Cm P n (.block id c) Q ρ w:=fun a ha=>
 wp_block (wp_mono (h a ha) fun e a' w' ⟨ρ',hf,hQ⟩=>by
  cases e with
  | exit id' =>
   simp only[C2]at hQ;simp only[Exit.inBlock];split at hQ
   ·rw[if_pos ‹_›];exact⟨ρ',hf,hQ⟩
   ·rw[if_neg ‹_›];exact⟨ρ',hf,hQ⟩
  | _=>exact⟨ρ',hf,hQ⟩)
theorem Sk{c:Code}(h:Cm P n c (P6 Q) ρ w):Cm P n (.scope c) Q ρ w:=fun a ha=>
 wp_scope_straight (wp_mono (h a ha) fun e a' w' ⟨ρ',hf,hQ⟩=>by
  cases e with
  | goto l=>exact hQ
  | _=>exact⟨ρ',hf,hQ⟩)
theorem UN{c:Code}(I:Aj->Ads->Prop)(μ:Aj->Ads->Nat)(h0:I ρ w) 
  (round:∀ρ w,I ρ w->Cm P n c (EE (fun ρ' w' =>I ρ' w' /\μ ρ' w' <μ ρ w) Q) ρ w):Cm P n (.loop c) Q ρ w:=by
 intro a ha;refine wp_loop (fun a w=>∃ρ,Fits n ρ a/\I ρ w) (fun a w=>μ (fun t=>a.tmps.getD t undef) w) ⟨ρ,ha,h0⟩ ?_;rintro a w ⟨ρ,hf,hI⟩;have he:(fun t=>a.tmps.getD t undef)=ρ:=funext hf.get;refine wp_mono (round ρ w hI a hf) fun e a' w' ⟨ρ',hf',hQ⟩=> ?_;cases e with
 | normal=>exact⟨⟨ρ',hf',hQ.1⟩,by rw[he,show(fun t=>a'.tmps.getD t undef)=ρ' from funext hf'.get];exact hQ.2⟩
 | _=>exact⟨ρ',hf',hQ⟩
/-! ### A region in the order of the text, operation by operation -/
def B2(P:AdM)(ops:Array AdL)(n:Nat)(Q:Bi)(l:List AdL)(ρ:Aj)(w:Ads):Prop:=
 ∀a,Fits n ρ a->wpList P ops (fun e a' w' =>∃ρ',Fits n ρ' a' /\Q e ρ' w') l a w
theorem wt{id:Nat}{l:List AdL}(h:B2 P l.toArray n Q l ρ w):Cm P n (.region id l.toArray false) Q ρ w:=fun a ha=>wp_region_lit (h a ha)
theorem oZ{ops:Array AdL}(h:Q .normal ρ w):B2 P ops n Q [] ρ w:=fun _ ha=>⟨ρ,ha,h⟩
theorem oS{ops:Array AdL}{rest:List AdL}{dst:Option Tmp}{op:Op}{ty:Ady}{pos:String}{af:Array Aej}(hd:(match dst with | some d=>Ae5 d n | none=>true)=true) 
  (h:Yk P (fun v w' =>B2 P ops n Q rest (updO ρ dst v) w') ((execOp (Ab ρ) ⟨dst,op,ty,pos,af,none⟩).run P w)):B2 P ops n Q (⟨dst,op,ty,pos,af,none⟩ :: rest) ρ w:=by
 intro a ha;have hdn:∀t,dst=some t->t<n:=fun t ht=>by subst ht;exact AdD hd
 refine wpList_plain rfl fun K hK=> ?_;unfold AfG AfY;rw[ha.eval];have hput:=fun v=>ha.put dst hdn v
 revert h
 generalize (execOp (Ab ρ) ⟨dst,op,ty,pos,af,none⟩).run P w=r
 intro h
 match r,h with
 | .ok (.value v) w',h=>exact hK _ _ (h _ (hput v))
 | .ok .skip w',h=>exact hK _ _ (h _ (hput undef))
 | .ok (.enter f args) w',h=>
  refine Aft h ?_;rintro e w'' ⟨v,rfl,hk⟩;exact hK _ _ (hk _ (hput v))
theorem oY{ops:Array AdL}{rest:List AdL}{dst:Option Tmp}{op:Op}{ty:Ady}{pos:String}{af:Array Aej}{g:Nat}{want:Bool}{d:Tmp}(hd:(match dst with | some d=>Ae5 d n | none=>true)=true)(hg:(ops[g]?).bind (·.dst)=some d)(hv:ρ d = .bool want) 
  (h:Yk P (fun v w' =>B2 P ops n Q rest (updO ρ dst v) w') ((execOp (Ab ρ) ⟨dst,op,ty,pos,af,some (g,want)⟩).run P w)):B2 P ops n Q (⟨dst,op,ty,pos,af,some (g,want)⟩ :: rest) ρ w:=by
 intro a ha;have hdn:∀t,dst=some t->t<n:=fun t ht=>by subst ht;exact AdD hd
 have hw:AeA ⟨dst,op,ty,pos,af,some (g,want)⟩ (yielded ops a.tmps)=true:=by
  have:=IX ((ha.get d).trans hv);simp only[AeA,yielded,hg];simp[this]
 refine wpList_step fun K hK=> ?_;rw[if_pos hw];unfold AfG AfY;rw[ha.eval];have hput:=fun v=>ha.put dst hdn v
 revert h
 generalize (execOp (Ab ρ) ⟨dst,op,ty,pos,af,some (g,want)⟩).run P w=r
 intro h
 match r,h with
 | .ok (.value v) w',h=>exact hK _ _ (h _ (hput v))
 | .ok .skip w',h=>exact hK _ _ (h _ (hput undef))
 | .ok (.enter f args) w',h=>
  refine Aft h ?_;rintro e w'' ⟨v,rfl,hk⟩;exact hK _ _ (hk _ (hput v))
theorem oN{ops:Array AdL}{rest:List AdL}{o:AdL}{g:Nat}{want b:Bool}{d:Tmp}(hgd:o.guard=some (g,want))(hd:(match o.dst with | some d=>Ae5 d n | none=>true)=true)(hg:(ops[g]?).bind (·.dst)=some d)(hv:ρ d = .bool b)(hb:(b==want)=false) 
  (h:B2 P ops n Q rest (updO ρ o.dst undef) w):B2 P ops n Q (o :: rest) ρ w:=by
 intro a ha;have hdn:∀t,o.dst=some t->t<n:=fun t ht=>by rw[ht]at hd;exact AdD hd
 have hw:AeA o (yielded ops a.tmps)=false:=by
  have:=IX ((ha.get d).trans hv);simp only[AeA,hgd,yielded,hg]
  simpa [this] using hb
 refine wpList_step fun K hK=> ?_;rw[if_neg (by rw[hw];simp)];exact hK _ _ (h _ (ha.put o.dst hdn undef))
/-! ### A region that draws its order, by facts -/
def KY(l:List AdL)(Φ:Nat->BH)(ρ:Aj)(n:Nat)(t:Tmp)(x:Adr)(w:Ads):Prop:=
 match DJ l t n with
 | none=>x=ρ t
 | some k=>Φ k x w
def H5(P:AdM)(l:List AdL)(C:Nat->Ads->Prop)(R:Nat->Ads->Ads->Prop)(Φ:Nat->BH)(ρ:Aj)(n:Nat)(o:AdL):Prop:=
 ∀(σ:Aj) (w:Ads),C n w->(∀t∈o.looksAt l.toArray,KY l Φ ρ n t (σ t) w) ->
  if A9 l o σ=true then Yk P (fun v w' =>R n w w' /\Φ n v w') ((execOp (Ab σ) o).run P w)else Φ n undef w
def StepsF(P:AdM)(l:List AdL)(C:Nat->Ads->Prop)(R:Nat->Ads->Ads->Prop)(Φ:Nat->BH)(ρ:Aj):Nat->List AdL->Prop
 | _,[]=>True
 | n,o :: r=>H5 P l C R Φ ρ n o/\StepsF P l C R Φ ρ (n+1) r
theorem StepsF.ok{l:List AdL}{C:Nat->Ads->Prop}{R:Nat->Ads->Ads->Prop}{Φ:Nat->BH}{T:Array Adr}(hT:∀t,T.getD t undef=ρ t):∀(r:List AdL) (k:Nat),StepsF P l C R Φ ρ k r->StepsOk P l C R Φ T k r
 | [],_,_=>trivial
 | o :: r,k,h=>⟨fun σ w hC hl=>h.1 σ w hC (fun t ht=>by
  have:=hl t ht;unfold GC at this;unfold KY;split
  ·rename_i e;rw[e]at this;rw[<-hT];exact this
  ·rename_i e;rw[e]at this;exact this),StepsF.ok hT r (k+1) h.2⟩
theorem Pv{T:Array Adr}(hT:∀t,T.getD t undef=ρ t)(ds:List Tmp)(hds:∀d∈ds,d<T.size)(u:Aj):∀t,(DU T ds u).getD t undef=if t∈ds then u t else ρ t:=fun t=>by
 by_cases ht:t<T.size
 ·rw[IU u t ds T ht,<-hT]
 ·have h1:(DU T ds u).getD t undef=undef:=by
   rw[Ad8,Agf (by rw[Fi];omega),Option.getD_none]
  have h2:T.getD t undef=undef:=by rw[Ad8,Agf (by omega),Option.getD_none]
  rw[h1,if_neg (fun h=>ht (hds t h)),<-hT,h2]
theorem Sl{l:List AdL}{n:Nat}(hg:DD l n=true)(ds:List Tmp)(hds:slotsW l=ds):∀d∈ds,d<n:=by
 intro d hd;rw[<-hds]at hd;unfold slotsW at hd;rw[Ahe,AgG]at hd;obtain⟨o,ho,hod⟩:=hd;obtain⟨j,hj⟩:=List.getElem?_of_mem ho;exact(Hr hg).room j o d hj hod
structure EndF (ds : List Tmp) (ρ ρ' : Aj) : Prop where
 old:∀t,ds.contains t=false->ρ' t=ρ t
theorem EndF.at_{ds:List Tmp}{ρ ρ' :Aj}(h:EndF ds ρ ρ'){t:Tmp}{v:Adr}(hv:ρ t=v)(ht:ds.contains t=false):ρ' t=v:=(h.old t ht).trans hv
theorem E1{l:List AdL}(Φs:List BH){id:Nat}(hm:P.follows .mixedOrders=true)(ds:List Tmp)(hg:DD l n=true)(hds:slotsW l=ds)(hst:AllStab Ext Φs)(hs:StepsF P l (fun _=>Ext w) (fun _=>Ext) (CX Φs) ρ 0 l) 
  (hQ:∀(ρ' :Aj) w',Ext w w' ->EndF ds ρ ρ' ->C1 l (fun _=> []) (CX Φs) ρ' w' ds->Q .normal ρ' w'):Cm P n (.region id l.toArray true) Q ρ w:=by
 intro a ha;obtain⟨T,df⟩:=a;have hz:T.size=n:=ha.size;subst hz;refine Nr Φs hm T df hg ds hds hst (StepsF.ok ha.get l 0 hs) fun u w' hE hf=> ?_;have hw:=Pv ha.get ds (Sl hg ds hds) u;refine⟨fun t=>if t∈ds then u t else ρ t,⟨by rw[Fi],ha.defers,hw⟩,hQ _ w' hE ⟨fun t ht=>if_neg (by simpa using ht)⟩ ?_⟩;have key:∀es:List Tmp,(∀d∈es,d∈ds)->C1 l (fun _=> []) (CX Φs) u w' es->C1 l (fun _=> []) (CX Φs) (fun t=>if t∈ds then u t else ρ t) w' es:=by
  intro es
  induction es with
  | nil=>exact fun _ _=>trivial
  | cons d es ih=>
   intro hm h;refine⟨?_,ih (fun x hx=>hm x (by simp[hx])) h.2⟩;have:=h.1;simp only[if_pos (hm d (by simp))];exact this
 exact key ds (fun _ h=>h) hf
variable {l : List AdL} {Φ : Nat -> BH}
theorem AE{C:Nat->Ads->Prop}{R:Nat->Ads->Ads->Prop}{k:Nat}{o:AdL}(hg:o.guard=none) 
  (h:∀σ w,C k w->(∀t∈o.looksAt l.toArray,KY l Φ ρ k t (σ t) w)->Yk P (fun v w' =>R k w w' /\Φ k v w') ((execOp (Ab σ) o).run P w)):H5 P l C R Φ ρ k o:=by
 intro σ w hC hl;have:A9 l o σ=true:=by unfold A9;rw[hg]
 rw[if_pos this];exact h σ w hC hl
/-! ### A function is entered; it returns -/
structure Begun (args : List Adr) (ρ : Aj) : Prop where
 get:∀t,ρ t=args.getD t undef
def ResF(P:AdM)(ρ:Aj)(w:Ads):ResultVar->Adr->Prop
 | .tmp t,v=>ρ t=v
 | .cell p ty,v=>∃a,ρ p = .pointer (some a)/\(loadVar ty a).run P w = .ok v w
def Ht(P:AdM)(ρ:Aj)(w:Ads):List ResultVar->List Adr->Prop
 | [],[]=>True
 | r :: rs,v :: vs=>ResF P ρ w r v/\Ht P ρ w rs vs
 | _,_=>False
def resOf(tmps:Array Adr):ResultVar->Sem Adr
 | .tmp t=>pure (tmps.getD t undef)
 | .cell a t=>do loadVar t (<-asAddr (tmps.getD a undef))
theorem IY{ρ:Aj}{w:Ads}{tmps:Array Adr}(ht:∀t,tmps.getD t undef=ρ t):∀(rs:List ResultVar) (vs:List Adr),Ht P ρ w rs vs->(rs.mapM (resOf tmps)).run P w=AhQ vs w
 | [],[],_=>by simp[AdF]
 | [],_ :: _,h=>h.elim
 | _ :: _,[],h=>h.elim
 | r :: rs,v :: vs,h=>by
  have ih:=IY ht rs vs h.2;have h1:(resOf tmps r).run P w = .ok v w:=by
   have h1:=h.1;cases r with
   | tmp t=>
    simp only[ResF]at h1;simp only[resOf,ht,h1,AdF]
   | cell p ty=>
    obtain⟨a,ha,hl⟩:=h1;simp only[resOf,ht,ha,asAddr,AdB,AdF,AdA,hl]
  rw[List.mapM_cons,AdB,h1];simp only[AdA,AdB,ih,AdF]
def IZ:List Adr->Adr
 | [v]=>v
 | vs=> .tuple vs.toArray
theorem H7{fn:Func}{rs:List ResultVar}(hrs:fn.results=rs.toArray){tmps:Array Adr}(ht:∀t,tmps.getD t undef=ρ t){vs:List Adr}(h:Ht P ρ w rs vs):
  (results fn tmps).run P w = .ok (IZ vs) w:=by
 have h1:=IY ht rs vs h;have he:results fn tmps=(do let vs <-fn.results.mapM (resOf tmps);pure (if h:vs.size=1 then vs[0]else .tuple vs)):=by
  unfold results
  congr 1
 rw[he,hrs,List.mapM_toArray,AdB];have hm:((List.toArray <$> rs.mapM (resOf tmps)):Sem (Array Adr)).run P w = .ok vs.toArray w:=by
  show((rs.mapM (resOf tmps)).bind (fun x=>Sem.pure x.toArray)).run P w=_;rw[show(rs.mapM (resOf tmps)).bind (fun x=>Sem.pure x.toArray)=(do let x <-rs.mapM (resOf tmps);pure x.toArray)from rfl,AdB,h1];rfl
 rw[hm];simp only[AdA,AdF]
 match vs with
 | []=>rfl
 | [v]=>rfl
 | _ :: _ :: _=>simp[IZ]
theorem ResF.row{p:Tmp}{ty:Ady}{g:Nat}{t:Ady}{cs:Array Adr}{fr:Nat × Nat}{d:TypeDesc}(hp:ρ p = .pointer (some ⟨g,0,none⟩))(hg:w.heap[g]? =some (.cells cs t fr)) 
  (hu:P.underlying ty=some d) (hd:(match d with | .struct _ | .array _ _=>true | _=>false)=true) (hi:(P.info? ty).map (·.size)=some cs.size):ResF P ρ w (.cell p ty) (.agg cs):=
 ⟨_,hp,run_loadVar_row w g t ty cs fr d hg hu hd hi⟩
abbrev AcQ:=@ResF.row
end
variable {P : AdM}
abbrev NI(n:Nat):Adr:= .int .i64 (n:Int)
abbrev B8(x:UInt8):Adr:= .int .u8 (x.toNat:Int)

theorem WS{op:BinOp}{t ty2:Ady}{x y:AdC}{d:Option Tmp}{ty:Ady}{pos:String}{af:Array Aej}{gd:Option (Nat × Bool)}{ρ:AdC->Adr}{xv yv v:Adr}{w:Ads} 
  (hx:ρ x=xv) (hy:ρ y=yv) (hne:(op matches .eql | .neq)=false) (hr:Aea op t xv yv=pure v):(execOp ρ ⟨d, .binOp op t x y ty2,ty,pos,af,gd⟩).run P w = .ok (.value v) w:=by
 have hg:eqGuard op t x y xv yv=pure ():=by
  unfold eqGuard;cases op <;> first | rfl | cases hne
 unfold execOp;simp only[hx,hy,hg,hr,AdB,AdF,AdA]
theorem ZV{K:Adr->Ads->Prop}{op:BinOp}{t ty2:Ady}{x y:AdC}{d:Option Tmp}{ty:Ady}{pos:String}{af:Array Aej}{gd:Option (Nat × Bool)}{ρ:Tmp->Adr}{xv yv v:Adr}{w:Ads} 
  (hx:Ab ρ x=xv) (hy:Ab ρ y=yv) (hne:(op matches .eql | .neq)=false) (hr:Aea op t xv yv=pure v) (hk:K v w):Yk P K ((execOp (Ab ρ) ⟨d, .binOp op t x y ty2,ty,pos,af,gd⟩).run P w):=
 AcG (WS hx hy hne hr) hk
theorem AbK{K:Adr->Ads->Prop}{t e:Ady}(ht:P.underlying t=some (.slice e))(he:∀w' :Ads,(sizeOf e).run P w' = .ok 1 w'){x y:AdC}{d:Option Tmp}{ty:Ady}{pos:String}{af:Array Aej}{gd:Option (Nat × Bool)}{ρ:Tmp->Adr}{w:Ads}{b o i n c:Nat}{k:AeI} 
  (hx:Ab ρ x = .slice (some ⟨b,o,none⟩) n c) (hy:Ab ρ y = .int k (i:Int)) (hi:i<n) (hk:K (.pointer (some ⟨b,o+i,none⟩)) w):Yk P K ((execOp (Ab ρ) ⟨d, .indexAddr t x y,ty,pos,af,gd⟩).run P w):=by
 refine AcG (v:= .pointer (some ⟨b,o+i,none⟩)) (w' :=w) ?_ hk;have hE:P.elem t=e:=by simp[Program.elem,ht]
 have hr:=run_indexAt_slice (P:=P) w t ⟨b,o,none⟩ n c k (i:Int) (by rw[hE];exact ht);rw[if_pos (by omega),hE,he]at hr;unfold execOp;simp only[hx,hy,AdB,hr,AdA,AdF];simp[Ae0]
theorem Sm{ty:Ady}{desc:TypeDesc}(hu:P.underlying ty=some desc)(hd:(match desc with | .struct _ | .array _ _=>false | _=>true)=true){x:AdC}{d:Option Tmp}{tt:Ady}{pos:String}{af:Array Aej}{gd:Option (Nat × Bool)}{ρ:AdC->Adr}{w:Ads}{a:Addr}{v:Adr} 
  (hx:ρ x = .pointer (some a)) (hc:w.cell? a=some v):(execOp ρ ⟨d, .load ty x,tt,pos,af,gd⟩).run P w = .ok (.value v) w:=by
 have hl:(AiF ty (.pointer (some a))).run P w = .ok v w:=by
  have hagg:(isAgg ty).run P w = .ok false w:=by
   unfold isAgg;rw[AdB,run_underlying hu w];cases desc <;> simp_all
  simp[AiF,Af0,loadVar,hagg,hc]
 unfold execOp;simp only[hx,AdB,hl,AdA,AdF]
theorem ZN{K:Adr->Ads->Prop}{ty:Ady}{desc:TypeDesc}(hu:P.underlying ty=some desc)(hd:(match desc with | .struct _ | .array _ _=>false | _=>true)=true){x:AdC}{d:Option Tmp}{tt:Ady}{pos:String}{af:Array Aej}{gd:Option (Nat × Bool)}{ρ:Tmp->Adr}{w:Ads}{a:Addr}{v:Adr} 
  (hx:Ab ρ x = .pointer (some a)) (hc:w.cell? a=some v) (hk:K v w):Yk P K ((execOp (Ab ρ) ⟨d, .load ty x,tt,pos,af,gd⟩).run P w):=
 AcG (Sm hu hd hx hc) hk
section
variable {P : AdM} {K : Adr -> Ads -> Prop} {ρ : Aj} {w : Ads} {d : Option Tmp} {ty : Ady} {pos : String} {af : Array Aej} {gd : Option (Nat × Bool)}
theorem Yk.move{x:AdC}{v:Adr}(hx:Ab ρ x=v)(hk:K v w):Yk P K ((execOp (Ab ρ) ⟨d, .move x,ty,pos,af,gd⟩).run P w):=by
 subst hx;exact hk
abbrev AcF:=@Yk.move
theorem Yk.assign{x:AdC}{v:Adr}(hx:Ab ρ x=v)(hk:K v w):Yk P K ((execOp (Ab ρ) ⟨d, .assign x,ty,pos,af,gd⟩).run P w):=by
 subst hx;exact hk
abbrev AcS:=@Yk.assign
theorem Z1{c x y:AdC}{v:Adr}(hc:Ab ρ c = .bool true)(hx:Ab ρ x=v)(hk:K v w):Yk P K ((execOp (Ab ρ) ⟨d, .pick c x y,ty,pos,af,gd⟩).run P w):=by
 subst hx;unfold execOp;simp only[hc,asBool,AdB,AdF,AdA,if_true];exact hk
theorem Z4{c x y:AdC}{v:Adr}(hc:Ab ρ c = .bool false)(hx:Ab ρ y=v)(hk:K v w):Yk P K ((execOp (Ab ρ) ⟨d, .pick c x y,ty,pos,af,gd⟩).run P w):=by
 subst hx;unfold execOp;simp only[hc,asBool,AdB,AdF,AdA,Bool.false_eq_true,if_false];exact hk
theorem Yk.nilCheck{x:AdC}{a:Addr}(hx:Ab ρ x = .pointer (some a))(hk:K (.pointer (some a)) w):Yk P K ((execOp (Ab ρ) ⟨d, .nilCheck x,ty,pos,af,gd⟩).run P w):=by
 unfold execOp;simp only[hx];exact hk
abbrev AcA:=@Yk.nilCheck
def Ax(P:AdM)(s:Ady)(f off:Nat):Prop:=∀(b o:Nat) (w:Ads),(Instr.fieldAt s (.pointer (some ⟨b,o,none⟩)) f).run P w = .ok (.pointer (some ⟨b,o+off,none⟩)) w
theorem Yk.fieldAt{s:Ady}{f off b o:Nat}(hf:Ax P s f off){x:AdC}(hx:Ab ρ x = .pointer (some ⟨b,o,none⟩))(hk:K (.pointer (some ⟨b,o+off,none⟩)) w):Yk P K ((execOp (Ab ρ) ⟨d, .fieldAddr s x f,ty,pos,af,gd⟩).run P w):=by
 unfold execOp;simp only[hx,AdB,hf b o w,AdA,AdF];exact hk
abbrev Acy:=@Yk.fieldAt
theorem Yk.alloc{e:Ady}{cs:Array Adr}(hz:∀(σ:AdC->Adr) (w:Ads),(execOp σ ⟨d, .alloc e,ty,pos,af,gd⟩).run P w = .ok (.value (.pointer (some ⟨w.heap.size,0,none⟩))) (w.alloc (.cells cs e))) 
  (hk:∀n w',w.heap.size=n->w'.heap[n]? =some (.cells cs e (0,0))->Ext w w' ->w'.heap.size=n+1->K (.pointer (some ⟨n,0,none⟩)) w'):Yk P K ((execOp (Ab ρ) ⟨d, .alloc e,ty,pos,af,gd⟩).run P w):=by
 rw[hz];exact hk _ _ rfl (heap_alloc_new w _) ((Aeo _ _).alloc (Adw _) _) (by simp)
abbrev AcH:=@Yk.alloc
theorem Yk.box{e:Ady}{x:AdC}{cs:Array Adr}(hx:Ab ρ x = .agg cs) 
  (hk:∀n w',w.heap.size=n->w'.heap[n]? =some (.cells cs e (0,0))->Ext w w' ->w'.heap.size=n+1->K (.pointer (some ⟨n,0,none⟩)) w'):Yk P K ((execOp (Ab ρ) ⟨d, .box e x,ty,pos,af,gd⟩).run P w):=by
 have hr:(execOp (Ab ρ) ⟨d, .box e x,ty,pos,af,gd⟩).run P w = .ok (.value (.pointer (some ⟨w.heap.size,0,none⟩))) (w.alloc (.cells cs e)):=by
  show((Instr.box e (Ab ρ x)).run P w).andThen (fun v w=>AhQ (Next.value v) w)=_;rw[hx];rfl
 rw[hr];exact hk _ _ rfl (heap_alloc_new w _) ((Aeo _ _).alloc (Adw _) _) (by simp)
abbrev AcP:=@Yk.box
theorem Aae{t e:Ady}(ht:P.underlying t=some (.slice e)){x:AdC}{l:Ai1}{w0:Ads}(h:RB w0 (Ab ρ x) l)(hk:K (NI l.length) w):Yk P K ((execOp (Ab ρ) ⟨d, .call ⟨.builtin .len,#[x],#[t]⟩,ty,pos,af,gd⟩).run P w):=by
 obtain⟨h1,ao,cap,hv,h2,h3,h4,h5⟩:=h;refine AcG (v:=NI l.length) (w' :=w) ?_ hk;unfold execOp;simp[resolve,invoke,builtin,AiG,hv,run_underlying ht,goInt]
theorem Aa6{t e:Ady}(ht:P.underlying t=some (.slice e)){x:AdC}{ao:Option Addr}{n c:Nat}(hx:Ab ρ x = .slice ao n c)(hk:K (NI n) w):Yk P K ((execOp (Ab ρ) ⟨d, .call ⟨.builtin .len,#[x],#[t]⟩,ty,pos,af,gd⟩).run P w):=by
 refine AcG (v:=NI n) (w' :=w) ?_ hk;unfold execOp;simp[resolve,invoke,builtin,AiG,hx,run_underlying ht,goInt]
theorem Ab3{t:Ady}(ht:P.underlying t=some .string){x:AdC}{s:ByteArray}(hx:Ab ρ x = .string s)(hk:K (NI s.size) w):Yk P K ((execOp (Ab ρ) ⟨d, .call ⟨.builtin .len,#[x],#[t]⟩,ty,pos,af,gd⟩).run P w):=by
 refine AcG (v:=NI s.size) (w' :=w) ?_ hk;unfold execOp;simp[resolve,invoke,builtin,AiG,hx,run_underlying ht,goInt]
def PCell(v:Adr):BH:=fun x w=>∃a,x = .pointer (some a)/\w.cell? a=some v
theorem AaO(v:Adr):Stab Ext (PCell v):=fun _ _ _ ⟨a,hx,hc⟩ h=>⟨a,hx,by rw[Below.cell h (AeD _ a hc)];exact hc⟩
theorem PCell.keep{v x:Adr}{w w' :Ads}(h:PCell v x w)(k:Ext w w'):PCell v x w' :=AaO v x w w' h k
theorem Aa1{t e:Ady}(ht:P.underlying t=some (.slice e))(he:∀w' :Ads,(sizeOf e).run P w' = .ok 1 w'){x y:AdC}{l:Ai1}(h:RB w (Ab ρ x) l){k:AeI}{i:Nat}(hy:Ab ρ y = .int k (i:Int))(hi:i<l.length) 
  (hk:∀v,PCell (B8 (l.getD i 0)) v w->K v w):Yk P K ((execOp (Ab ρ) ⟨d, .indexAddr t x y,ty,pos,af,gd⟩).run P w):=by
 obtain⟨b,off,cap,hv,h1,h2,h3,h4⟩:=h.open_ (by omega);exact AbK ht he hv hy hi (hk _ ⟨_,rfl,h4 i hi⟩)
theorem Aab{t:Ady}{desc:TypeDesc}(hu:P.underlying t=some desc)(hd:(match desc with | .struct _ | .array _ _=>false | _=>true)=true){x:AdC}{v:Adr}(hx:PCell v (Ab ρ x) w)(hk:K v w):Yk P K ((execOp (Ab ρ) ⟨d, .load t x,ty,pos,af,gd⟩).run P w):=by
 obtain⟨a,ha,hc⟩:=hx;exact ZN hu hd ha hc hk
theorem ZO{op:BinOp}{t ty2:Ady}{x y:AdC}{k:AeI}{a b:Int}{v:Adr}(hx:Ab ρ x = .int k a)(hy:Ab ρ y = .int k b)(hr:Aea op t (.int k a) (.int k b)=pure v)(hk:K v w):Yk P K ((execOp (Ab ρ) ⟨d, .binOp op t x y ty2,ty,pos,af,gd⟩).run P w):=by
 have hg:eqGuard op t x y (.int k a) (.int k b)=pure ():=by
  unfold eqGuard;cases op <;> rfl
 refine AcG (v:=v) (w' :=w) ?_ hk;unfold execOp;simp only[hx,hy,hg,hr,AdB,AdF,AdA]
theorem Z2{t:Ady}{x:AdC}{b:Bool}(hx:Ab ρ x = .bool b)(hk:K (.bool (!b)) w):Yk P K ((execOp (Ab ρ) ⟨d, .unOp .not t x,ty,pos,af,gd⟩).run P w):=by
 refine AcG (v:= .bool (!b)) (w' :=w) ?_ hk;unfold execOp;simp[hx,Op.unary]
theorem Yk.run{o:AdL}{v:Adr}(hr:(execOp (Ab ρ) o).run P w = .ok (.value v) w)(hk:K v w):Yk P K ((execOp (Ab ρ) o).run P w):=by rw[hr];exact hk
abbrev Ac1:=@Yk.run
theorem ZM{src dst:Ady}{ks kd:AeI}(hs:P.underlying src=some (.int ks))(hd:P.underlying dst=some (.int kd))(a:Int)(w:Ads):(convert src dst (.int ks a)).run P w = .ok (.int kd (kd.wrap a)) w:=by
 simp only[convert,AdB,run_underlying hs,run_underlying hd,AdA,Conv.intToInt,AdF]
theorem AaG{src dst:Ady}{ks kd:AeI}(hs:P.underlying src=some (.int ks))(hd:P.underlying dst=some (.int kd)){x:AdC}{a b:Int}(hx:Ab ρ x = .int ks a)(hb:kd.wrap a=b)(hk:K (.int kd b) w):Yk P K ((execOp (Ab ρ) ⟨d, .convert src dst x,ty,pos,af,gd⟩).run P w):=by
 refine AcG (v:= .int kd b) (w' :=w) ?_ hk;have:=Go.Proofs.YtbbbblinjomajaaGreatDoor.ZM (P:=P) hs hd a w;unfold execOp;simp only[hx,AdB,this,AdA,AdF,hb]
theorem AaA(s x:AdC){t tx e e' :Ady}(base:Nat)(z:Adr)(ht:P.underlying t=some (.slice e))(hi:(P.info? e).map (fun i=>(i.zero,i.size,i.bytes))=some (some z,1,1))(hzs:z.cells.size=1)(hu:P.underlying tx=some (.slice e')) 
  (l m:Ai1) (hown:w.ownsRow base e 1 (Ab ρ s) l.length (Adv l)) (hsrc:RB w (Ab ρ x) m) (hb:l.length+m.length<=140737488355328) (hbase:base<=w.heap.size)
  (h:∀v' w',w'.ownsRow base e 1 v' (l++m).length (Adv (l++m))->Grew w w' (Ab ρ s) v' ->K v' w'):Yk P K ((execOp (Ab ρ) ⟨d, .call ⟨.builtin .append,#[s,x],#[t,tx]⟩,ty,pos,af,gd⟩).run P w):=
 Yk.append s x base e z 1 1 ht hi hzs l.length (Adv l) hown m.length (Adv m) (hsrc.src hu) (by unfold maxLen;omega) (by omega) hbase fun v' w' ho g=>h v' w' (by rw[Adx,Aij];exact ho) g
theorem NT(w:Ads)(e:Ady)(l:Ai1)(hl:l.length<=9223372036854775807):NewB e w (w.alloc (.cells (Adv l).toArray e)) (.slice (some ⟨w.heap.size,0,none⟩) l.length l.length) l:=
 ⟨⟨by rw[AdG];simp, .inr ⟨w.heap.size,l.length,(Adv l).toArray,rfl,Adw _,heap_alloc_new w _,Adw _,hl,by simp[AdG],by rw[show l.length*1=(Adv l).length by rw[AdG];simp];exact List.take_length⟩⟩,Aix _ _ none⟩
theorem AaU{f:Afi}(hp:Plain P f){args:Array AdC}{at_:Array Ady}(vs:List Adr)(hv:args.toList.map (Ab ρ)=vs) 
  (h:Calls P f vs.toArray w fun e w' =>∃v,e = .returned v/\K v w'):Yk P K ((execOp (Ab ρ) ⟨d, .call ⟨.value (.func f),args,at_⟩,ty,pos,af,gd⟩).run P w):=by
 subst hv;have:=Yk.call (P:=P) (K:=K) hp (ρ:=ρ) (args:=args.toList) (at_:=at_) (dst:=d) (ty:=ty) (pos:=pos) (af:=af) (gd:=gd) (w:=w) h
 simpa using this
theorem Aaw{f:Afi}(hp:Plain P f){at_:Array Ady} 
  (h:Calls P f #[] w fun e w' =>∃v,e = .returned v/\K v w'):Yk P K ((execOp (Ab ρ) ⟨d, .call ⟨.value (.func f),#[],at_⟩,ty,pos,af,gd⟩).run P w):=
 AaU hp [] (by simp) h
theorem ZP{f:Afi}(hp:Plain P f){x0:AdC}{a:Adr}{at_:Array Ady}(h0:Ab ρ x0=a) 
  (h:Calls P f #[a] w fun e w' =>∃v,e = .returned v/\K v w'):Yk P K ((execOp (Ab ρ) ⟨d, .call ⟨.value (.func f),#[x0],at_⟩,ty,pos,af,gd⟩).run P w):=
 AaU hp [a] (by simp[h0]) h
theorem ZR{f:Afi}(hp:Plain P f){x0 x1:AdC}{a b:Adr}{at_:Array Ady}(h0:Ab ρ x0=a)(h1:Ab ρ x1=b) 
  (h:Calls P f #[a,b] w fun e w' =>∃v,e = .returned v/\K v w'):Yk P K ((execOp (Ab ρ) ⟨d, .call ⟨.value (.func f),#[x0,x1],at_⟩,ty,pos,af,gd⟩).run P w):=
 AaU hp [a,b] (by simp[h0,h1]) h
theorem Z5{f:Afi}(hp:Plain P f){x0 x1 x2:AdC}{a b c:Adr}{at_:Array Ady}(h0:Ab ρ x0=a)(h1:Ab ρ x1=b)(h2:Ab ρ x2=c) 
  (h:Calls P f #[a,b,c] w fun e w' =>∃v,e = .returned v/\K v w'):Yk P K ((execOp (Ab ρ) ⟨d, .call ⟨.value (.func f),#[x0,x1,x2],at_⟩,ty,pos,af,gd⟩).run P w):=
 AaU hp [a,b,c] (by simp[h0,h1,h2]) h
theorem Ab4{src dst e:Ady}(hs:P.underlying src=some (.slice e))(he:P.underlying e=some (.int .u8))(hd:P.underlying dst=some .string){x:AdC}{l:Ai1} 
  (h:RB w (Ab ρ x) l) (hk:K (.string ⟨l.toArray⟩) w):Yk P K ((execOp (Ab ρ) ⟨d, .convert src dst x,ty,pos,af,gd⟩).run P w):=by
 have hr:=NQ (P:=P) hs he hd h;refine AcG (v:= .string ⟨l.toArray⟩) (w' :=w) ?_ hk;unfold execOp;simp only[AdB,hr,AdA,AdF]
theorem Aaf{v x:Adr}{l:Ai1}(h:RB w v l)(e:x=v):RB w x l:=by rw[e];exact h
theorem Aai{v x y:Adr}(h:PCell v x w)(e:y=x):PCell v y w:=by rw[e];exact h
theorem Hu{v x:Adr}{b:Nat}{e:Ady}{z n:Nat}{xs:List Adr}(h:w.ownsRow b e z v n xs)(e' :x=v):w.ownsRow b e z x n xs:=by rw[e'];exact h
theorem oM{Q:Bi}{ops:Array AdL}{n:Nat}{rest:List AdL}{dst:Option Tmp}{x:AdC}{ty:Ady}{pos:String}{af:Array Aej}(hd:(match dst with | some d=>Ae5 d n | none=>true)=true)(h:B2 P ops n Q rest (updO ρ dst (Ab ρ x)) w):B2 P ops n Q (⟨dst, .move x,ty,pos,af,none⟩ :: rest) ρ w:=oS hd (AcF rfl h)
theorem oA{Q:Bi}{ops:Array AdL}{n:Nat}{rest:List AdL}{dst:Option Tmp}{x:AdC}{ty:Ady}{pos:String}{af:Array Aej}(hd:(match dst with | some d=>Ae5 d n | none=>true)=true)(h:B2 P ops n Q rest (updO ρ dst (Ab ρ x)) w):B2 P ops n Q (⟨dst, .assign x,ty,pos,af,none⟩ :: rest) ρ w:=oS hd (AcS rfl h)
def H9(ρ:Aj):List (Nat × Adr)->Prop
 | []=>True
 | (t,v) :: r=>ρ t=v/\H9 ρ r
theorem EndF.hold{ds:List Tmp}{ρ ρ' :Aj}(h:EndF ds ρ ρ'):∀(l:List (Nat × Adr)) (_:H9 ρ l) (_:(l.all fun p=> !ds.contains p.1)=true),H9 ρ' l
 | [],_,_=>trivial
 | (t,v) :: r,hl,hd=>by
  rw[List.all_cons,AdX]at hd;exact⟨h.at_ hl.1 (by simpa using hd.1),EndF.hold h r hl.2 hd.2⟩
theorem Zm{Q:Bi}{ops:Array AdL}{n:Nat}(l:List (Nat × Adr))(hF:H9 ρ l)(h:∀ρ',H9 ρ' l->Q .normal ρ' w):B2 P ops n Q [] ρ w:=oZ (h ρ hF)
theorem Bz{w0 w w' :Ads}{v v' :Adr}{b:Nat}{e:Ady}{z n:Nat}{xs:List Adr}(h:Ext w0 w)(g:Grew w w' v v')(ho:w.ownsRow b e z v n xs)(hb:w0.heap.size<=b):Ext w0 w' :=
 Below.grown h g.by_ h.size (fun k hk=>Adu hb (ho.lt k hk).1)
theorem A0{w w' :Ads}{v v' :Adr}{g:Nat}{o:Obj}(h:w.heap[g]? =some o)(gr:Grew w w' v v')(hne:v.ownBlock≠some g):w'.heap[g]? =some o:=
 (gr.by_.block g (Aef.1 h).1 (fun e=>hne e.symm)).trans h
theorem Bk{w:Ads}{v:Adr}{b:Nat}{e:Ady}{z n:Nat}{xs:List Adr}{g:Nat}(ho:w.ownsRow b e z v n xs)(hg:g<b):v.ownBlock≠some g:=fun h=>by have:=(ho.lt g h).1;omega
theorem Cf{w:Ads}{v:Adr}{b:Nat}{e:Ady}{z n:Nat}{xs:List Adr}{g:Nat}(ho:w.ownsRow b e z v n xs)(hg:w.heap.size<=g):v.ownBlock≠some g:=fun h=>by have:=(ho.lt g h).2;omega
theorem Cp{w w' :Ads}{v v' :Adr}{g:Nat}(gr:Grew w w' v v')(h:v.ownBlock≠some g)(hg:g<w.heap.size):v'.ownBlock≠some g:=fun h' =>by
 rcases gr.fresh g h' with h1 | h1
 ·exact h h1
 ·omega
theorem E2{w w' :Ads}{v:Adr}{b:Nat}{e:Ady}{z n:Nat}{xs:List Adr}{g:Nat}(ho:w.ownsRow b e z v n xs)(h:w.grownBy w' (some g))(hne:v.ownBlock≠some g):w'.ownsRow b e z v n xs:=
 ho.kept h (.inr hne)
theorem AbL{t e:Ady}(hr:∀(z:Int) (w:Ads),(Ad0 t 1 #[(0, .int .u8 z)]).run P w = .ok (.slice (some ⟨w.heap.size,0,none⟩) 1 1) (w.alloc (.cells #[.int .u8 z] e))){x:AdC}{b:UInt8}(hx:Ab ρ x=B8 b) 
  (hk:∀v w',NewB e w w' v [b]->K v w'):Yk P K ((execOp (Ab ρ) ⟨d, .buildSlice t 1 #[(0,x)],ty,pos,af,gd⟩).run P w):=by
 have hr' :(execOp (Ab ρ) ⟨d, .buildSlice t 1 #[(0,x)],ty,pos,af,gd⟩).run P w = .ok (.value (.slice (some ⟨w.heap.size,0,none⟩) 1 1)) (w.alloc (.cells #[B8 b] e)):=by
  have:=hr (b.toNat:Int) w;unfold execOp;simp only[AdH,AdK,AdO,hx,AdB];rw[this];rfl
 rw[hr'];exact hk _ _ (NT w e [b] (by simp))
theorem Acp{t e:Ady}(hr:∀(w:Ads),(Ad0 t 0 #[]).run P w = .ok (.slice (some ⟨w.heap.size,0,none⟩) 0 0) (w.alloc (.cells #[] e))) 
  (hk:∀v w',NewB e w w' v []->K v w'):Yk P K ((execOp (Ab ρ) ⟨d, .buildSlice t 0 #[],ty,pos,af,gd⟩).run P w):=by
 have hr' :(execOp (Ab ρ) ⟨d, .buildSlice t 0 #[],ty,pos,af,gd⟩).run P w = .ok (.value (.slice (some ⟨w.heap.size,0,none⟩) 0 0)) (w.alloc (.cells #[] e)):=by
  unfold execOp;simp only[AdH,AdO,AdB,hr,AdA,AdF]
 rw[hr'];exact hk _ _ (NT w e [] (by decide))
theorem WT{l:Ai1}{i:Nat}(hi:i<l.length):(Adv l)[i]? =some (B8 (l.getD i 0)):=by simp[Adv,hi]
theorem Ac{b:Nat}{l:List Adr}{t:Ady}{fr:Nat × Nat}(h:w.heap[b]? =some (.cells l.toArray t fr)){i:Nat}{v:Adr}(hi:l[i]? =some v):w.cell? ⟨b,i,none⟩=some v:=by
 simp[World.cell?,h,hi]
theorem ZS{t' :Ady}{x y:AdC}{g i:Nat}{cs:List Adr}{t:Ady}{v:Adr}(hx:Ab ρ x = .pointer (some ⟨g,i,none⟩))(hy:Ab ρ y=v)(hg:w.heap[g]? =some (.cells cs.toArray t (0,0)))(hi:i<cs.length)(hinfo:(P.info? t').map (·.size)=some 1)(hv:v.cells = #[v])(h1:v.oneCell' =true) 
  (hk:∀w',w'.heap[g]? =some (.cells (cs.set i v).toArray t (0,0))->w.grownBy w' (some g)->w'.heap.size=w.heap.size->K undef w'):Yk P K ((execOp (Ab ρ) ⟨d, .store t' x y,ty,pos,af,gd⟩).run P w):=by
 have hst:=run_storeCells_at P g i t [v] 0 cs.toArray w hg (by simp;omega) (by simpa using h1);have e:(cs.toArray.toList.take (i+0)++ [v]++cs.toArray.toList.drop (i+0+ [v].length))=cs.set i v:=by
  rw[List.set_eq_take_append_cons_drop,if_pos hi];simp
 rw[e]at hst;have hr:(Agx t' (.pointer (some ⟨g,i,none⟩)) v).run P w = .ok () (w.setRow g (cs.set i v).toArray):=by
  cases hq:P.info? t' with
  | none=>simp[hq]at hinfo
  | some q=>
   have hs:q.size=1:=by simp[hq]at hinfo;omega
   simp[Agx,Af0,storeVar,sizeOf,typeInfo,hq,hv,hs,hst]
 unfold execOp;simp only[hx,hy,hr,AdB,AdA,AdF];exact hk _ (setRow_heap w g cs.toArray _ t (0,0) hg) ⟨rfl,rfl,rfl,by simp,fun k _ hk=>setRow_other w g k _ (fun e=>hk (by rw[e]))⟩ (by simp)
theorem Z7{t' :Ady}{x y:AdC}{g:Nat}{cells cur:Array Adr}{t:Ady}(hx:Ab ρ x = .pointer (some ⟨g,0,none⟩))(hy:Ab ρ y = .agg cells)(hg:w.heap[g]? =some (.cells cur t (0,0)))(hs:cells.size=cur.size)(hi:(P.info? t').map (·.size)=some cells.size)(h1:∀v∈cells.toList,v.oneCell' =true) 
  (hk:∀w',w'.heap[g]? =some (.cells cells t (0,0))->w.grownBy w' (some g)->w'.heap.size=w.heap.size->K undef w'):Yk P K ((execOp (Ab ρ) ⟨d, .store t' x y,ty,pos,af,gd⟩).run P w):=by
 have hr:=G2 (P:=P) w g t' cells cur t hg hs hi h1;unfold execOp;simp only[hx,hy,hr,AdB,AdA,AdF];exact hk _ (setRow_heap w g cur cells t (0,0) hg) ⟨rfl,rfl,rfl,by simp,fun k _ hk=>setRow_other w g k _ (fun e=>hk (by rw[e]))⟩ (by simp)
theorem Aal{t' :Ady}{x:AdC}{g:Nat}{cs:Array Adr}{t:Ady}{fr:Nat × Nat}{de:TypeDesc}(hx:Ab ρ x = .pointer (some ⟨g,0,none⟩))(hg:w.heap[g]? =some (.cells cs t fr))(hu:P.underlying t' =some de)(hd:(match de with | .struct _ | .array _ _=>true | _=>false)=true)(hi:(P.info? t').map (·.size)=some cs.size) 
  (hk:K (.agg cs) w):Yk P K ((execOp (Ab ρ) ⟨d, .load t' x,ty,pos,af,gd⟩).run P w):=by
 have hr:=run_loadVar_row w g t t' cs fr de hg hu hd hi;refine AcG (v:= .agg cs) (w' :=w) ?_ hk;unfold execOp;simp[hx,AiF,Af0,hr]
theorem D7{b:Nat}{e:Ady}{v:Adr}{l l' :Ai1}(h:w.ownsRow b e 1 v l.length (Adv l))(e' :l=l'):w.ownsRow b e 1 v l'.length (Adv l'):=by rw[<-e'];exact h
theorem AG{g:Nat}{l l' :List Adr}{t:Ady}{fr:Nat × Nat}(h:w.heap[g]? =some (.cells l.toArray t fr))(e:l=l'):w.heap[g]? =some (.cells l'.toArray t fr):=by rw[<-e];exact h
theorem AbR{t e:Ady}(ht:P.underlying t=some (.slice e))(he:∀w' :Ads,(sizeOf e).run P w' = .ok 1 w'){x lo:AdC}{v:Adr}{xs:Ai1}(hx:Ab ρ x=v)(h:RB w v xs){k:AeI}{l:Nat}(hlo:Ab ρ lo = .int k (l:Int))(hl:l<=xs.length) 
  (hk:∀v',RB w v' (xs.drop l)->v'.ownBlock=v.ownBlock->K v' w):Yk P K ((execOp (Ab ρ) ⟨d, .slice t x (some lo) none none,ty,pos,af,gd⟩).run P w):=by
 obtain⟨ao,c,⟨hrun,hb⟩,hR⟩:=CO ht he h (some (.int k l)) none l xs.length hl (Adw _) (.inr ⟨k,rfl⟩) (.inl ⟨rfl,rfl⟩);have hR' :=AaY (Adw _) hR;rw[List.take_of_length_le (by rw[AdT];exact Adw _)]at hR';refine AcG (v:= .slice ao (xs.length-l) c) (w' :=w) ?_ (hk _ hR' hb);unfold execOp;simp only[hx,hlo,AeT,Afq,hrun,AdB,AdF,AdA]
theorem AbS{t e:Ady}(ht:P.underlying t=some (.slice e))(he:∀w' :Ads,(sizeOf e).run P w' = .ok 1 w'){x hi:AdC}{v:Adr}{xs:Ai1}(hx:Ab ρ x=v)(h:RB w v xs){k:AeI}{n:Nat}(hhi:Ab ρ hi = .int k (n:Int))(hn:n<=xs.length) 
  (hk:∀v',RB w v' (xs.take n)->v'.ownBlock=v.ownBlock->K v' w):Yk P K ((execOp (Ab ρ) ⟨d, .slice t x none (some hi) none,ty,pos,af,gd⟩).run P w):=by
 obtain⟨ao,c,⟨hrun,hb⟩,hR⟩:=CO ht he h none (some (.int k n)) 0 n (Nat.zero_le _) hn (.inl ⟨rfl,rfl⟩) (.inr ⟨k,rfl⟩);have hR' :=AaY hn hR;rw[List.drop_zero,Nat.sub_zero]at hR';refine AcG (v:= .slice ao (n-0) c) (w' :=w) ?_ (hk _ hR' hb);unfold execOp;simp only[hx,hhi,AeT,Afq,hrun,AdB,AdF,AdA]
theorem AbC{t' :Ady}{x:AdC}{g o:Nat}{cs:List Adr}{de:TypeDesc}(hx:Ab ρ x = .pointer (some ⟨g,o,none⟩))(hc:w.rangeAt g o cs)(hu:P.underlying t' =some de)(hd:de.isRow=true)(hi:(P.info? t').map (·.size)=some cs.length) 
  (hk:K (.agg cs.toArray) w):Yk P K ((execOp (Ab ρ) ⟨d, .load t' x,ty,pos,af,gd⟩).run P w):=by
 refine AcG (v:= .agg cs.toArray) (w' :=w) ?_ hk;simp only[execOp,hx,AdB,run_loadAt_mid w g o t' cs de hc hu hd hi,AdA,AdF]
section
variable {Q : Bi} {K : Aj -> Ads -> Prop}
theorem tN(h:K ρ w):EE K Q .normal ρ w:=h
theorem KZ{i:Nat}(h:Q (.exit i) ρ w):EE K Q (.exit i) ρ w:=h
theorem I0(h:Q .ret ρ w):EE K Q .ret ρ w:=h
theorem bN{i:Nat}(h:Q .normal ρ w):C2 i Q .normal ρ w:=h
theorem I1{i:Nat}(h:Q .ret ρ w):C2 i Q .ret ρ w:=h
theorem I2{i:Nat}(h:Q .normal ρ w):C2 i Q (.exit i) ρ w:=by
 simp only[C2,if_true];exact h
theorem Ns{i j:Nat}(hij:(AgK j i)=false)(h:Q (.exit j) ρ w):C2 i Q (.exit j) ρ w:=by
 simp only[C2];rw[if_neg (fun e=>by subst e;simp at hij)];exact h
end
theorem DP{t:Ady}(h:(match P.underlying t with | some (.struct _)=>true | _=>false)=true):∃fs,P.underlying t=some (.struct fs):=by
 split at h
 ·exact⟨_,‹_›⟩
 ·cases h
theorem K0{t e:Ady}(ht:P.underlying t=some (.pointer e))(a:Option Addr)(w:Ads):(Agg t (.pointer a) (.pointer none)).run P w = .ok a.isNone w:=by
 unfold Agg;rw[show AgO=(AgO-1)+1 from rfl];cases a <;> simp[Afg,run_underlying ht,AdB,AdF]
theorem Aas{t e ty2:Ady}(ht:P.underlying t=some (.pointer e)){x:AdC}{a:Option Addr}(hx:Ab ρ x = .pointer a)(hk:K (.bool a.isNone) w):Yk P K ((execOp (Ab ρ) ⟨d, .binOp .eql t x (.const (.pointer none)) ty2,ty,pos,af,gd⟩).run P w):=by
 have hy:Ab ρ (.const (.pointer none)) = .pointer none:=rfl;refine AcG (v:= .bool a.isNone) (w' :=w) ?_ hk;have hr:=K0 ht a w;unfold execOp;simp only[hx,hy];cases a <;> simp[eqGuard,Aea,hr]
theorem Abg{t e ty2:Ady}(ht:P.underlying t=some (.pointer e)){x:AdC}{a:Option Addr}(hx:Ab ρ x = .pointer a)(hk:K (.bool !a.isNone) w):Yk P K ((execOp (Ab ρ) ⟨d, .binOp .neq t x (.const (.pointer none)) ty2,ty,pos,af,gd⟩).run P w):=by
 have hy:Ab ρ (.const (.pointer none)) = .pointer none:=rfl;refine AcG (v:= .bool !a.isNone) (w' :=w) ?_ hk;have hr:=K0 ht a w;unfold execOp;simp only[hx,hy];cases a <;> simp[eqGuard,Aea,hr]
theorem Ad{w0 w1 w2:Ads}{g:Nat}(h0:Ext w0 w1)(h:w1.grownBy w2 (some g))(hg:w0.heap.size<=g):Ext w0 w2:=
 Below.grown h0 h h0.size (fun k hk=>by cases hk;exact hg)
end
/-! ### Numbers that are not below 0 -/
section
theorem Bg(t:Ady)(k:AeI)(a b:Nat):Aea .lss t (.int k (a:Int)) (.int k (b:Int))=pure (.bool (decide (a<b))):=by
 simp[Aea,Agq]
theorem Fj(t:Ady)(k:AeI)(a b:Nat):Aea .leq t (.int k (a:Int)) (.int k (b:Int))=pure (.bool (decide (a<=b))):=by
 simp[Aea,Agq]
theorem CM(t:Ady)(k:AeI)(a b:Nat):Aea .gtr t (.int k (a:Int)) (.int k (b:Int))=pure (.bool (decide (b<a))):=by
 simp[Aea,Agq]
theorem FO(t:Ady)(k:AeI)(a b:Nat):Aea .geq t (.int k (a:Int)) (.int k (b:Int))=pure (.bool (decide (b<=a))):=by
 simp[Aea,Agq]
theorem AI(t:Ady)(k:AeI)(a b:Nat):Aea .eql t (.int k (a:Int)) (.int k (b:Int))=pure (.bool (decide (a=b))):=by
 have:((a:Int)==(b:Int))=decide (a=b):=by rw[AfN];simp;omega
 simp[Aea,Agq,this]
theorem AX(t:Ady)(k:AeI)(a b:Nat):Aea .neq t (.int k (a:Int)) (.int k (b:Int))=pure (.bool (decide (a≠b))):=by
 have:((a:Int) != (b:Int))=decide (a≠b):=by rw[AfN];simp;omega
 simp[Aea,Agq,this]
theorem Wt(t:Ady)(k:AeI)(a b:Int):Aea .lss t (.int k a) (.int k b)=pure (.bool (decide (a<b))):=by simp[Aea,Agq]
theorem Wu(t:Ady)(k:AeI)(a b:Int):Aea .gtr t (.int k a) (.int k b)=pure (.bool (decide (b<a))):=by simp[Aea,Agq]
theorem Wv(t:Ady)(k:AeI)(a b:Int):Aea .eql t (.int k a) (.int k b)=pure (.bool (decide (a=b))):=by
 have:(a==b)=decide (a=b):=by rw[AfN];simp
 simp[Aea,Agq,this]
theorem KC(n:Nat)(h:n<9223372036854775808):IntKind.i64.wrap (n:Int)=(n:Int):=by
 simp only[AiH,Afl,AfZ];have:(n:Int)%(2^64:Int)=n:=by omega
 simp only[this];rw[if_neg];simp;omega
theorem AF(t:Ady)(a b:Nat)(h:a+b<9223372036854775808):Aea .add t (.int .i64 (a:Int)) (.int .i64 (b:Int))=pure (.int .i64 ((a+b:Nat):Int)):=by
 unfold Aea;simp only[ne_eq,not_true_eq_false,if_false,Op.intArith];rw[<-Int.natCast_add,KC _ h]
theorem FE(t:Ady)(a b:Nat)(h:a<9223372036854775808)(hb:b<=a):Aea .sub t (.int .i64 (a:Int)) (.int .i64 (b:Int))=pure (.int .i64 ((a-b:Nat):Int)):=by
 unfold Aea;simp only[ne_eq,not_true_eq_false,if_false,Op.intArith];rw[<-Int.natCast_sub hb,KC _ (by omega)]
theorem Zx(t:Ady)(a:Nat)(j:AeI)(n:Nat)(hn:n<64):Aea .shr t (.int .i64 (a:Int)) (.int j (n:Int))=pure (.int .i64 ((a/2^n:Nat):Int)):=by
 unfold Aea;simp only[Op.shift,Afl];rw[if_neg (by omega),AdV,Agc (by omega)];have:(a:Int).fdiv (2^n)=((a/2^n:Nat):Int):=by
  rw[show(2^n:Int)=((2^n:Nat):Int) by simp,Ahi _ (Int.natCast_nonneg _)];rfl
 rw[this]
theorem UO(n:Nat)(h:n<18446744073709551616):IntKind.u64.wrap (n:Int)=(n:Int):=by
 simp only[AiH,Afl,AfZ];have:(n:Int)%(2^64:Int)=n:=by omega
 simp only[this];simp
theorem WU(t:Ady)(a:Nat)(j:AeI)(n:Nat)(hn:n<64):Aea .shr t (.int .u64 (a:Int)) (.int j (n:Int))=pure (.int .u64 ((a/2^n:Nat):Int)):=by
 unfold Aea;simp only[Op.shift,Afl];rw[if_neg (by omega),AdV,Agc (by omega)];have:(a:Int).fdiv (2^n)=((a/2^n:Nat):Int):=by
  rw[show(2^n:Int)=((2^n:Nat):Int) by simp,Ahi _ (Int.natCast_nonneg _)];rfl
 rw[this]
theorem WV(n:Nat)(h:n<256):IntKind.u8.wrap (n:Int)=(n:Int):=by
 simp only[AiH,Afl,AfZ];have:(n:Int)%(2^8:Int)=n:=by omega
 simp only[this];simp
theorem XV(k:AeI)(b:UInt8)(h:∀n:Nat,n<256->k.wrap (n:Int)=(n:Int)):k.wrap (b.toNat:Int)=((b.toNat:Nat):Int):=h _ b.toNat_lt
end
variable {P : AdM}
def Dn(l1 l2:Ai1):List Nat->Bool
 | []=>true
 | i :: r=>if l1.getD i 0=l2.getD i 0 then Dn l1 l2 r else false
theorem I3(l1 l2:Ai1):∀is:List Nat,Dn l1 l2 is=true↔∀i∈is,l1.getD i 0=l2.getD i 0
 | []=>by simp[Dn]
 | i :: r=>by
  have ih:=I3 l1 l2 r;unfold Dn;split
  ·rename_i h
   rw[ih];constructor
   ·intro h2 j hj;rcases Ad5.1 hj with rfl | hj
    ·exact h
    ·exact h2 j hj
   ·exact fun h2 j hj=>h2 j (AeF _ hj)
  ·rename_i h
   constructor
   ·intro h2;cases h2
   ·intro h2;exact absurd (h2 i (by simp)) h
theorem byte_eq(a b:UInt8):((a.toNat:Int)==(b.toNat:Int))=decide (a=b):=by
 rw[AfN];simp;constructor
 ·intro h;exact UInt8.toNat_inj.1 (by omega)
 ·intro h;rw[h]
theorem run_eqArray(w:Ads){t e:Ady}{n d:Nat}(ht:P.underlying t=some (.array n e))(he:P.underlying e=some (.int .u8))(hs:(sizeOf e).run P w = .ok 1 w)(l1 l2:Ai1)(h1:l1.length=n)(h2:l2.length=n):
  (Afg (d+1+1) t (.agg (Adv l1).toArray) (.agg (Adv l2).toArray)).run P w = .ok (decide (l1=l2)) w:=by
 have hagg:(isAgg e).run P w = .ok false w:=by
  unfold isAgg;rw[AdB,run_underlying he w];rfl
 have hpart:∀(l:Ai1) (i:Nat),i<l.length->(part e (Adv l).toArray (i*1)).run P w = .ok (.int .u8 ((l.getD i 0).toNat:Int)) w:=fun l i hi=>by
  unfold part;rw[AdB,hagg];simp[Adv,hi,AdF]
 have key:∀(is:List Nat),(∀i∈is,i<n)->∀(f:Nat->(Option Bool × Unit)->Sem (ForInStep ((Option Bool × Unit)))),
   (∀i r,i<n->(f i r).run P w=if l1.getD i 0=l2.getD i 0 then .ok (.yield (none,())) w else .ok (.done (some false,())) w) ->
   ∀r,r.1=none->(forIn is r f).run P w = .ok (if Dn l1 l2 is=true then none else some false,()) w:=by
  intro is
  induction is with
  | nil=>
   intro _ f _ r hr;obtain⟨a,b⟩:=r;simp at hr;subst hr;simp[Dn,AdF]
  | cons i is ih=>
   intro hi f hf r hr;simp only[List.forIn_cons,AdB,hf i r (hi i (by simp))];by_cases h:l1.getD i 0=l2.getD i 0
   ·rw[if_pos h];simp only[AdA];rw[ih (fun j hj=>hi j (AeF _ hj)) f hf (none,()) rfl];simp only[Dn,if_pos h]
   ·rw[if_neg h];simp only[AdA,AdF,Dn,if_neg h];rfl
 obtain⟨D,hD⟩:∃D,D=d+1:=⟨_,rfl⟩;rw[<-hD];simp only[Afg,AdB,run_underlying ht,AdA,hs];rw[Std.Legacy.Range.forIn_eq_forIn_range'];have hsz:([:n]:Std.Legacy.Range).size=n:=by simp[Std.Legacy.Range.size]
 rw[hsz,key (Aha 0 n 1) (fun i hi=>by simpa using hi)]
 ·have hiff:=I3 l1 l2 (Aha 0 n 1);have hl:l1=l2↔Dn l1 l2 (Aha 0 n 1)=true:=by
   rw[hiff];constructor
   ·intro h i _;rw[h]
   ·intro h
    apply List.ext_getElem (by omega)
    intro i hi1 hi2;have:=h i (by simp;omega)
    simpa [hi1,hi2] using this
  by_cases h:l1=l2
  ·rw[hl.1 h,decide_eq_true h];simp[AdF]
  ·have h' :Dn l1 l2 (Aha 0 n 1)=false:=by
    cases hb:Dn l1 l2 (Aha 0 n 1)with
    | false=>rfl
    | true=>exact absurd (hl.2 hb) h
   rw[h',decide_eq_false h];simp[AdF]
 ·intro i r hi;simp only[AdB,hpart l1 i (by omega),hpart l2 i (by omega),AdA,hD,run_equalIn_int w d e .u8 .u8 _ _ he];by_cases h:l1.getD i 0=l2.getD i 0
  ·rw[if_pos h,byte_eq,decide_eq_true h];simp[AdF]
  ·rw[if_neg h,byte_eq,decide_eq_false h];simp[AdF]
 ·rfl
theorem Nt(w:Ads){t e:Ady}{n:Nat}(ht:P.underlying t=some (.array n e))(he:P.underlying e=some (.int .u8))(hs:(sizeOf e).run P w = .ok 1 w)(hg:P.eqGuardType P.depth t=false)(l1 l2:Ai1)(h1:l1.length=n)(h2:l2.length=n)(x y:AdC):
  (do eqGuard .eql t x y (.agg (Adv l1).toArray) (.agg (Adv l2).toArray);binOp .eql t (.agg (Adv l1).toArray) (.agg (Adv l2).toArray):Sem Adr).run P w = .ok (.bool (decide (l1=l2))) w:=by
 have he2:(eqGuard .eql t x y (.agg (Adv l1).toArray) (.agg (Adv l2).toArray)).run P w = .ok () w:=by
  simp[eqGuard,hg]
 rw[AdB,he2,AdA,run_eql_struct,run_eqArray (d:=9998) w ht he hs l1 l2 h1 h2];rfl
theorem Pw{ρ:AdC->Adr}{d:Option Tmp}{x y:AdC}{ty2 tt:Ady}{pos:String}{af:Array Aej}{gd:Option (Nat × Bool)}{w:Ads}{t e:Ady}{n:Nat}(ht:P.underlying t=some (.array n e))(he:P.underlying e=some (.int .u8))(hs:(sizeOf e).run P w = .ok 1 w)(hg:P.eqGuardType P.depth t=false){l1 l2:Ai1}(h1:l1.length=n)(h2:l2.length=n) 
  (hx:ρ x = .agg (Adv l1).toArray) (hy:ρ y = .agg (Adv l2).toArray):(execOp ρ ⟨d, .binOp .eql t x y ty2,tt,pos,af,gd⟩).run P w = .ok (.value (.bool (decide (l1=l2)))) w:=by
 have h:=Nt (P:=P) w ht he hs hg l1 l2 h1 h2 x y;simp only[execOp,hx,hy];rw[AdB,h];rfl
theorem Abh{w w' :Ads}(h:Ext w w'){a:Addr}{v:Adr}(hc:w.cell? a=some v):w'.cell? a=some v:=by
 rw[Below.cell h (AeD w a hc)];exact hc
theorem Reads.keep{w w' :Ads}{z n:Nat}{v:Adr}{xs:List Adr}(h:Reads w z v n xs)(k:Ext w w'):Reads w' z v n xs:=by
 obtain⟨h1,ao,cap,rfl,h2,h3,h4,h5⟩:=h;exact⟨h1,ao,cap,rfl,h2,h3,h4,fun a ha j u hu=>Abh k (h5 a ha j u hu)⟩
theorem RB.nil(w:Ads):RB w (.slice none 0 0) []:=⟨rfl,none,0,rfl,Adw _,by simp[maxLen],fun _=>⟨rfl,rfl⟩,fun a h=>by cases h⟩
theorem RB.lt{w:Ads}{v:Adr}{l:Ai1}(h:RB w v l)(hl:0<l.length){b:Nat}(hb:v.ownBlock=some b):b<w.heap.size:=by
 obtain⟨b',off,cap,rfl,-,-,h1,-⟩:=h.open_ hl;simp[Aec]at hb;omega
theorem RB.slice{w:Ads}{v:Adr}{l:Ai1}(h:RB w v l):∃ao n c,v = .slice ao n c:=by
 obtain⟨h1,ao,cap,rfl,-⟩:=h;exact⟨ao,_,cap,rfl⟩
section
variable {P : AdM} {K : Adr -> Ads -> Prop} {ρ : Aj} {w : Ads} {d : Option Tmp} {ty : Ady} {pos : String} {af : Array Aej} {gd : Option (Nat × Bool)}
theorem Abo{t e ty2:Ady}{n:Nat}(ht:P.underlying t=some (.array n e))(he:P.underlying e=some (.int .u8))(hs:∀w:Ads,(sizeOf e).run P w = .ok 1 w)(hg:P.eqGuardType P.depth t=false){x y:AdC}{l1 l2:Ai1}(hx:Ab ρ x = .agg (Adv l1).toArray)(hy:Ab ρ y = .agg (Adv l2).toArray)(h1:l1.length=n)(h2:l2.length=n) 
  (hk:K (.bool (decide (l1=l2))) w):Yk P K ((execOp (Ab ρ) ⟨d, .binOp .eql t x y ty2,ty,pos,af,gd⟩).run P w):=
 AcG (Pw ht he (hs w) hg h1 h2 hx hy) hk
theorem AaK{t e ty2:Ady}{n:Nat}(ht:P.underlying t=some (.array n e))(he:P.underlying e=some (.int .u8))(hs:∀w:Ads,(sizeOf e).run P w = .ok 1 w)(hg:P.eqGuardType P.depth t=false){x y:AdC}{l1 l2:Ai1}(hx:Ab ρ x = .agg (Adv l1).toArray)(hy:Ab ρ y = .agg (Adv l2).toArray)(h1:l1.length=n)(h2:l2.length=n) 
  (hk:K (.bool (decide (l1≠l2))) w):Yk P K ((execOp (Ab ρ) ⟨d, .binOp .neq t x y ty2,ty,pos,af,gd⟩).run P w):=by
 have he2:(eqGuard .neq t x y (.agg (Adv l1).toArray) (.agg (Adv l2).toArray)).run P w = .ok () w:=by
  simp[eqGuard,hg]
 have heq:(Agg t (.agg (Adv l1).toArray) (.agg (Adv l2).toArray)).run P w = .ok (decide (l1=l2)) w:=run_eqArray (d:=9998) w ht he (hs w) l1 l2 h1 h2;have hb:(!decide (l1=l2))=decide (l1≠l2):=by simp
 refine AcG (v:= .bool (decide (l1≠l2))) (w' :=w) ?_ hk;unfold execOp;simp only[hx,hy,AdB,he2,AdA,Aea,heq,AdF,hb]
end
section
variable {P : AdM} {K : Adr -> Ads -> Prop} {ρ : Aj} {w : Ads} {d : Option Tmp} {ty : Ady} {pos : String} {af : Array Aej} {gd : Option (Nat × Bool)}
theorem AaL{t:Ady}(ht:P.underlying t=some .string){x y:AdC}{l:Ai1}{k:AeI}{i:Nat}(hx:Ab ρ x=St l)(hy:Ab ρ y = .int k (i:Int))(hi:i<l.length)(hk:K (B8 (l.getD i 0)) w):Yk P K ((execOp (Ab ρ) ⟨d, .index t x y,ty,pos,af,gd⟩).run P w):=by
 refine AcG (v:=B8 (l.getD i 0)) (w' :=w) ?_ hk;have hb:(⟨l.toArray⟩:ByteArray)[i]? =some (l.getD i 0):=by
  rw[getElem?_pos (⟨l.toArray⟩:ByteArray) i (show i<l.toArray.size by simpa using hi)];show some (l.toArray[i]'(by simpa using hi))=_;simp[hi]
 unfold execOp;simp only[hx,hy,Instr.index,asIntOf,AdB,AdF,AdA,run_underlying ht];rw[if_pos (by omega),AdV,hb];rfl
theorem FF(l:Ai1):(⟨l.toArray⟩:ByteArray).toList=l:=by
 rw[ByteArray.toList_eq]
theorem Ww(l m:Ai1):((⟨l.toArray⟩:ByteArray).toList==(⟨m.toArray⟩:ByteArray).toList)=decide (l=m):=by
 rw[FF,FF,AfN];simp
theorem Aav{op:BinOp}(hop:op = .eql\/op = .neq){t ty2:Ady}{x y:AdC}{l m:Ai1}(hx:Ab ρ x=St l)(hy:Ab ρ y=St m)(b:Bool)(hb:b=match op with | .eql=>decide (l=m) | _=>decide (l≠m))(hk:K (.bool b) w):Yk P K ((execOp (Ab ρ) ⟨d, .binOp op t x y ty2,ty,pos,af,gd⟩).run P w):=by
 refine AcG (v:= .bool b) (w' :=w) ?_ hk;subst hb;have hn:(!decide (l=m))=decide (l≠m):=by simp
 unfold execOp;rcases hop with rfl | rfl
 ·simp only[hx,hy,eqGuard,Aea,Ahb,Ww,AdB,AdF];rfl
 ·simp only[hx,hy,eqGuard,Aea,Ahb,Ww,hn,AdB,AdF];rfl
theorem Aci{t ty2:Ady}{x y:AdC}{l m:Ai1}(hx:Ab ρ x=St l)(hy:Ab ρ y=St m)(hb:l.length+m.length<=9223372036854775807)(hk:K (St (l++m)) w):Yk P K ((execOp (Ab ρ) ⟨d, .binOp .add t x y ty2,ty,pos,af,gd⟩).run P w):=
 Ab1 hx hy hb hk
theorem Aaq{t:Ady}(ht:P.underlying t=some .string){x:AdC}{l:Ai1}(hx:Ab ρ x=St l)(hk:K (NI l.length) w):Yk P K ((execOp (Ab ρ) ⟨d, .call ⟨.builtin .len,#[x],#[t]⟩,ty,pos,af,gd⟩).run P w):=by
 have hs:(⟨l.toArray⟩:ByteArray).size=l.length:=by show l.toArray.size=_;simp
 exact Ab3 ht hx (by rw[hs];exact hk)
theorem Yk.extract{x:AdC}{vs:List Adr}{i:Nat}{v:Adr}(hx:Ab ρ x = .tuple vs.toArray)(hv:vs[i]? =some v)(hk:K v w):Yk P K ((execOp (Ab ρ) ⟨d, .extract x i,ty,pos,af,gd⟩).run P w):=by
 refine AcG (v:=v) (w' :=w) ?_ hk;unfold execOp;simp[hx,Instr.extract,hv]
abbrev AcB:=@Yk.extract
theorem FP{x0 y0:Adr}(h0:x0=y0): [x0]= [y0]:=by rw[h0]
theorem Cj{x0 x1 y0 y1:Adr}(h0:x0=y0)(h1:x1=y1): [x0,x1]= [y0,y1]:=by rw[h0,h1]
theorem QD{x0 x1 x2 y0 y1 y2:Adr}(h0:x0=y0)(h1:x1=y1)(h2:x2=y2): [x0,x1,x2]= [y0,y1,y2]:=by rw[h0,h1,h2]
theorem YV{x0 x1 x2 x3 y0 y1 y2 y3:Adr}(h0:x0=y0)(h1:x1=y1)(h2:x2=y2)(h3:x3=y3): [x0,x1,x2,x3]= [y0,y1,y2,y3]:=by rw[h0,h1,h2,h3]
theorem Aaj{f:Afi}(hp:Plain P f){c:AdC}{args:Array AdC}{at_:Array Ady}{caps:Array Adr}(hc:Ab ρ c = .func (.func f) #[] caps)(vs:Array Adr)(hv:args.map (Ab ρ)++caps=vs) 
  (h:Calls P f vs w fun e w' =>∃v,e = .returned v/\K v w'):Yk P K ((execOp (Ab ρ) ⟨d, .call ⟨.value c,args,at_⟩,ty,pos,af,gd⟩).run P w):=by
 subst hv;refine Yk.enter (f:=f) (args:=args.map (Ab ρ)++caps) (w' :=w) ?_ h;unfold execOp;simp[resolve,hc,Deferred.ofValue,invoke,hp _ w]
theorem Aac{f:Fn}{caps:Array AdC}{vs:Array Adr}(hv:caps.map (Ab ρ)=vs)(hk:K (.func f #[] vs) w):Yk P K ((execOp (Ab ρ) ⟨d, .makeFunc f #[] caps,ty,pos,af,gd⟩).run P w):=by
 refine AcG (v:= .func f #[] vs) (w' :=w) ?_ hk;unfold execOp;simp[Instr.makeFunc,hv]
theorem Ab5{t ty2:Ady}(ht:P.underlying t=some .bool){x y:AdC}{a b:Bool}(hx:Ab ρ x = .bool a)(hy:Ab ρ y = .bool b)(hk:K (.bool (a==b)) w):Yk P K ((execOp (Ab ρ) ⟨d, .binOp .eql t x y ty2,ty,pos,af,gd⟩).run P w):=by
 have hr:(Agg t (.bool a) (.bool b)).run P w = .ok (a==b) w:=by
  unfold Agg;rw[show AgO=(AgO-1)+1 from rfl];simp[Afg,run_underlying ht,AdB,AdF]
 refine AcG (v:= .bool (a==b)) (w' :=w) ?_ hk;unfold execOp;simp[hx,hy,eqGuard,Aea,hr]
theorem Aat{e:Ady}{x:AdC}{v:Adr}(hx:Ab ρ x=v)(hv:v.cells = #[v]) 
  (hk:∀n w',w.heap.size=n->w'.heap[n]? =some (.cells ([v]:List Adr).toArray e (0,0))->Ext w w' ->w'.heap.size=n+1->K (.pointer (some ⟨n,0,none⟩)) w'):Yk P K ((execOp (Ab ρ) ⟨d, .box e x,ty,pos,af,gd⟩).run P w):=by
 have hr:(execOp (Ab ρ) ⟨d, .box e x,ty,pos,af,gd⟩).run P w = .ok (.value (.pointer (some ⟨w.heap.size,0,none⟩))) (w.alloc (.cells #[v] e)):=by
  show((Instr.box e (Ab ρ x)).run P w).andThen (fun v w=>AhQ (Next.value v) w)=_;rw[hx];simp[Instr.box,newVar,hv];rfl
 rw[hr];exact hk _ _ rfl (heap_alloc_new w _) ((Aeo _ _).alloc (Adw _) _) (by simp)
end
theorem CY{w:Ads}{b:Nat}{e:Ady}{z n:Nat}{v:Adr}{xs:List Adr}(h:w.ownsRow b e z v n xs):v.cells = #[v]/\v.oneCell' =true:=by
 rcases h.2 with ⟨rfl,_⟩ | ⟨g,cap,cur,rfl,-⟩ <;> exact⟨rfl,rfl⟩
theorem RB.one{w:Ads}{v:Adr}{l:Ai1}(h:RB w v l):v.cells = #[v]/\v.oneCell' =true:=by
 obtain⟨-,ao,cap,rfl,-⟩:=h;exact⟨rfl,rfl⟩
abbrev Ado:=@RB.one
/-! ### Bits of numbers that are not below 0 -/
theorem I4(t:Ady)(a b:Nat)(ha:a<256)(hb:b<256):Aea .and t (.int .u8 (a:Int)) (.int .u8 (b:Int))=pure (.int .u8 ((a&&&b:Nat):Int)):=by
 unfold Aea;simp only[ne_eq,not_true_eq_false,if_false,Op.intBits,Afl,BitVec.ofInt_natCast];have h1:(Af2 8 a&&&Af2 8 b).toNat=a&&&b:=by
  rw[BitVec.toNat_and,AgH,AgH,AgP (by omega),AgP (by omega)]
 show pure (Value.int .u8 (IntKind.u8.wrap (((Af2 8 a&&&Af2 8 b).toNat:Nat):Int)))=_;rw[h1,WV _ (Nat.lt_of_le_of_lt Nat.and_le_left ha)]
def RG{α:Type}(k:Nat)(enc:α->List Adr)(w:Ads)(v:Adr)(l:List α):Prop:=(∀x∈l,(enc x).length=k)/\Reads w k v l.length (l.flatMap enc)
def OG{α:Type}(base:Nat)(t:Ady)(k:Nat)(enc:α->List Adr)(w:Ads)(v:Adr)(l:List α):Prop:=(∀x∈l,(enc x).length=k)/\w.ownsRow base t k v l.length (l.flatMap enc)
def PR(cs:List Adr)(v:Adr)(w:Ads):Prop:=∃b o,v = .pointer (some ⟨b,o,none⟩)/\w.rangeAt b o cs
section
variable {α : Type} {k base : Nat} {t : Ady} {enc : α -> List Adr} {w w' : Ads} {v x : Adr} {l : List α} {cs : List Adr}
theorem RG.keep(h:RG k enc w v l)(e:Ext w w'):RG k enc w' v l:=⟨h.1,h.2.keep e⟩
theorem OG.keep(h:OG base t k enc w v l)(e:Ext w w'):OG base t k enc w' v l:=⟨h.1,AcU _ _ _ _ _ _ _ _ h.2 e⟩
theorem OG.kept{g:Nat}(h:OG base t k enc w v l)(e:w.grownBy w' (some g))(hne:v.ownBlock≠some g):OG base t k enc w' v l:=⟨h.1,E2 h.2 e hne⟩
abbrev AcC:=@OG.kept
theorem ZU(h:RG k enc w v l)(e:x=v):RG k enc w x l:=by rw[e];exact h
theorem AaJ(h:OG base t k enc w v l)(e:x=v):OG base t k enc w x l:=by rw[e];exact h
theorem PR.keep(h:PR cs v w)(e:Ext w w'):PR cs v w' :=by
 obtain⟨b,o,h1,h2⟩:=h;exact⟨b,o,h1,fun j u hu=>Abh e (h2 j u hu)⟩
abbrev AcV:=@PR.keep
theorem Aaa(h:PR cs v w)(e:x=v):PR cs x w:=by rw[e];exact h
theorem RG.nil(k:Nat)(enc:α->List Adr)(w:Ads):RG k enc w (.slice none 0 0) []:=⟨by simp,by simp,none,0,rfl,Adw _,by simp[maxLen],fun _=>⟨rfl,rfl⟩,fun a h=>by cases h⟩
theorem OG.nil(base:Nat)(t:Ady)(k:Nat)(enc:α->List Adr)(w:Ads):OG base t k enc w (.slice none 0 0) []:=⟨by simp,Ae7 w base t k⟩
abbrev AcO:=@OG.nil
theorem RG.one(h:RG k enc w v l):v.cells = #[v]/\v.oneCell' =true:=by
 obtain⟨-,-,ao,cap,rfl,-⟩:=h;exact⟨rfl,rfl⟩
abbrev AcD:=@RG.one
theorem RG.len(h:RG k enc w v l):∃ao c,v = .slice ao l.length c:=by
 obtain⟨-,-,ao,cap,rfl,-⟩:=h;exact⟨ao,cap,rfl⟩
theorem ZQ(h:OG base t k enc w v l):RG k enc w v l:=by
 refine⟨h.1,h.2.1,?_⟩;have h' :=h.2;rcases h.2.2 with ⟨rfl,h0⟩ | ⟨g,cap,cur,rfl,hbg,hg,hnc,hcm,hcs,htake⟩
 ·exact⟨none,0,by rw[h0],by omega,by simp[maxLen],fun _=>⟨h0,rfl⟩,fun a ha=>by cases ha⟩
 ·exact⟨some ⟨g,0,none⟩,cap,rfl,hnc,hcm,(fun h=>by cases h),(fun a ha j u hu=>by cases ha;exact h'.cells rfl j u hu)⟩
theorem Ia(h:∀x∈l,(enc x).length=k):(l.flatMap enc).length=l.length*k:=by
 induction l with
 | nil=>simp
 | cons a r ih=>
  rw[Aen,Adx,ih (fun x hx=>h x (by simp[hx])),h a (by simp),AdJ,AeQ];omega
theorem KD(d:α):∀(l:List α),(∀x∈l,(enc x).length=k)->∀i,i<l.length->∀j u,(enc (l.getD i d))[j]? =some u->(l.flatMap enc)[i*k+j]? =some u
 | [],_,i,hi,_,_,_=>by simp at hi
 | a :: r,h,0,_,j,u,hu=>by
  have hj:=(AdR.1 hu).1;simp only[List.getD_cons_zero]at hu hj;rw[Aen,Af3,Afa,AeP hj];exact hu
 | a :: r,h,i+1,hi,j,u,hu=>by
  simp only[List.getD_cons_succ]at hu;have ih:=KD d r (fun x hx=>h x (by simp[hx])) i (by simpa using hi) j u hu;rw[Aen,AeC (by rw[h a (by simp),AeQ];omega),h a (by simp)];rw[show(i+1)*k+j-k=i*k+j by rw[AeQ];omega];exact ih
theorem RG.rangeAt(d:α)(h:RG k enc w v l)(hk:0<k){i:Nat}(hi:i<l.length):∃b o c,v = .slice (some ⟨b,o,none⟩) l.length c/\w.rangeAt b (o+i*k) (enc (l.getD i d)):=by
 obtain⟨h1,h2,ao,cap,rfl,h3,h4,h5,h6⟩:=h;cases ao with
 | none=>have:=(h5 rfl).1;omega
 | some a=>
  obtain⟨b,o,sp⟩:=a;have hx:l.getD i d∈l:=by
   rw[Adz,AdE hi];exact Ae3 hi
  have hc:∀j u,(enc (l.getD i d))[j]? =some u->w.cell? ((⟨b,o,sp⟩:Addr).add (i*k+j))=some u:=fun j u hu=>h6 _ rfl _ _ (KD d l h1 i hi j u hu);have e:=h1 (l.getD 0 d) (by rw[Adz,AdE (by omega)];exact Ae3 _);have h0:=h6 _ rfl _ _ (KD d l h1 0 (by omega) 0 ((enc (l.getD 0 d))[0]'(by omega)) (by rw[AdE]));have hsp:sp=none:=by
   have:=World.cell?_spot h0
   simpa [AfP] using this
  subst hsp;refine⟨b,o,cap,rfl,fun j u hu=> ?_⟩;have:=hc j u hu;rw[Ae0]at this;rw[Afu];exact this
end
section
variable {P : AdM} {K : Adr -> Ads -> Prop} {ρ : Aj} {w : Ads} {d : Option Tmp} {ty : Ady} {pos : String} {af : Array Aej} {gd : Option (Nat × Bool)}
variable {α : Type} {k : Nat} {enc : α -> List Adr} {l : List α}
theorem Z3{t e:Ady}(ht:P.underlying t=some (.slice e))(he:∀w' :Ads,(sizeOf e).run P w' = .ok k w')(a:0<k){x y:AdC}(dd:α)(h:RG k enc w (Ab ρ x) l){kd:AeI}{i:Nat}(hy:Ab ρ y = .int kd (i:Int))(hi:i<l.length) 
  (hk:∀v,PR (enc (l.getD i dd)) v w->K v w):Yk P K ((execOp (Ab ρ) ⟨d, .indexAddr t x y,ty,pos,af,gd⟩).run P w):=by
 obtain⟨b,o,c,hv,hr⟩:=h.rangeAt dd a hi;refine AcG (v:= .pointer (some ⟨b,o+i*k,none⟩)) (w' :=w) ?_ (hk _ ⟨b,_,rfl,hr⟩);have hE:P.elem t=e:=by simp[Program.elem,ht]
 have hr:=run_indexAt_slice (P:=P) w t ⟨b,o,none⟩ l.length c kd (i:Int) (by rw[hE];exact ht);rw[if_pos (by omega),hE,he]at hr;unfold execOp;simp only[hv,hy,AdB,hr,AdA,AdF];simp[Ae0]
theorem ZZ{t e:Ady}(ht:P.underlying t=some (.slice e)){x:AdC}{w0:Ads}(h:RG k enc w0 (Ab ρ x) l)(hk:K (NI l.length) w):Yk P K ((execOp (Ab ρ) ⟨d, .call ⟨.builtin .len,#[x],#[t]⟩,ty,pos,af,gd⟩).run P w):=by
 obtain⟨ao,c,hv⟩:=h.len;exact Aa6 ht hv hk
theorem ZT{t' :Ady}{x:AdC}{cs:List Adr}{de:TypeDesc}(h:PR cs (Ab ρ x) w)(hu:P.underlying t' =some de)(hd:de.isRow=true)(hi:(P.info? t').map (·.size)=some cs.length) 
  (hk:K (.agg cs.toArray) w):Yk P K ((execOp (Ab ρ) ⟨d, .load t' x,ty,pos,af,gd⟩).run P w):=by
 obtain⟨b,o,hx,hr⟩:=h;exact AbC hx hr hu hd hi hk
theorem Aag{s:Ady}{f off n:Nat}(hf:Ax P s f off){x:AdC}{cs:List Adr}(h:PR cs (Ab ρ x) w)(hk:∀v,PR ((cs.drop off).take n) v w->K v w):Yk P K ((execOp (Ab ρ) ⟨d, .fieldAddr s x f,ty,pos,af,gd⟩).run P w):=by
 obtain⟨b,o,hx,hr⟩:=h;refine Acy hf hx (hk _ ⟨b,o+off,rfl,fun j v hv=> ?_⟩);rw[Afw]at hv;split at hv
 ·rw[AfK]at hv;have:=hr _ _ hv;rw[<-Afu]at this;exact this
 ·cases hv
theorem PR.cell{cs:List Adr}{v u:Adr}(h:PR cs v w)(hc:cs[0]? =some u):PCell u v w:=by
 obtain⟨b,o,hx,hr⟩:=h;exact⟨_,hx,by have:=hr 0 u hc;simpa using this⟩
theorem RG.src{tx e' :Ady}(hk:P.underlying tx=some (.slice e')){v:Adr}(h1:∀x∈l,∀u∈enc x,u.oneCell' =true)(h:RG k enc w v l):Src P k tx v l.length (l.flatMap enc) w:=by
 obtain⟨h0,h2,ao,cap,rfl,h3,h4,h5,h6⟩:=h;cases ao with
 | none=>
  obtain⟨h7,rfl⟩:=h5 rfl;have:l= []:=Aep h7;subst this;exact Src.ofNil w hk 0
 | some a=>exact Src.ofSlice w hk a _ cap _ h2 (h6 a rfl) (fun u hu=>by
   obtain⟨x,hx,hxu⟩:=List.mem_flatMap.1 hu;exact h1 x hx u hxu)
theorem Aak(s x:AdC){t tx e e' :Ady}(base:Nat)(z:Adr)(bytes:Nat)(ht:P.underlying t=some (.slice e))(hi:(P.info? e).map (fun i=>(i.zero,i.size,i.bytes))=some (some z,k,bytes))(hzs:z.cells.size=k)(hu:P.underlying tx=some (.slice e')) 
  (l m:List α) (hown:OG base e k enc w (Ab ρ s) l) (hsrc:RG k enc w (Ab ρ x) m) (h1:∀x∈m,∀u∈enc x,u.oneCell' =true) (hb:l.length+m.length<=281474976710656) (hbb:(l.length+m.length)*bytes<=140737488355328) (hbase:base<=w.heap.size)
  (h:∀v' w',OG base e k enc w' v' (l++m)->Grew w w' (Ab ρ s) v' ->K v' w'):Yk P K ((execOp (Ab ρ) ⟨d, .call ⟨.builtin .append,#[s,x],#[t,tx]⟩,ty,pos,af,gd⟩).run P w):=
 Yk.append s x base e z k bytes ht hi hzs l.length (l.flatMap enc) hown.2 m.length (m.flatMap enc) (hsrc.src hu h1) (by unfold maxLen;omega) hbb hbase fun v' w' ho g=>h v' w' ⟨fun x hx=>(Aed.1 hx).elim (hown.1 x) (hsrc.1 x),by rw[Adx,List.flatMap_append];exact ho⟩ g
theorem Abi{w:Ads}{b:Nat}{x:α}{t:Ady}{fr:Nat × Nat}(hl:(enc x).length=k)(hb:w.heap[b]? =some (.cells (enc x).toArray t fr)):RG k enc w (.slice (some ⟨b,0,none⟩) 1 1) [x]:=
 ⟨by simpa using hl,by simpa using hl,some ⟨b,0,none⟩,1,rfl,Adw _,by simp[maxLen],(fun h=>by cases h),fun a ha j u hu=>by
  cases ha;rw[Ae0,Afa];exact Ac hb (by simpa using hu)⟩
end
theorem Cq{α:Type}{l:List α}{i:Nat}(d:α)(h:i<l.length):l.getD i d∈l:=by
 rw[Adz,AdE h];exact Ae3 h
theorem OG.low{α:Type}{b b' k:Nat}{t:Ady}{enc:α->List Adr}{w:Ads}{v:Adr}{l:List α}(h:OG b t k enc w v l)(hb:b' <=b):OG b' t k enc w v l:=⟨h.1,AN h.2 hb⟩
abbrev AcM:=@OG.low
section
variable {P : AdM}
theorem AbD{K:Adr->Ads->Prop}{ρ:Tmp->Adr}{t e:Ady}{n:Nat}(ht:P.underlying t=some (.array n e))(he:∀w' :Ads,(sizeOf e).run P w' = .ok 1 w'){x:AdC}{d:Option Tmp}{ty:Ady}{pos:String}{af:Array Aej}{gd:Option (Nat × Bool)}{w:Ads}{b o:Nat} 
  (hx:Ab ρ x = .pointer (some ⟨b,o,none⟩)) (hk:K (.slice (some ⟨b,o,none⟩) n n) w):Yk P K ((execOp (Ab ρ) ⟨d, .slice t x none none none,ty,pos,af,gd⟩).run P w):=by
 refine AcG (v:= .slice (some ⟨b,o,none⟩) n n) (w' :=w) ?_ hk;have hE:P.elem t=e:=by simp[Program.elem,ht]
 have hN:P.arrayLen t=n:=by simp[Program.arrayLen,ht]
 have hr:=run_sliceAt_array_all (P:=P) (w:=w) (t:=t) (a:=⟨b,o,none⟩) (by rw[hE,hN];exact ht);rw[hE,he,hN]at hr;unfold execOp;simp only[hx,Afq,AdB,hr,AdA,AdF];simp[slicedAt,Ae0]
end
section
variable {P : AdM} {K : Adr -> Ads -> Prop} {ρ : Aj} {w : Ads} {d : Option Tmp} {ty : Ady} {pos : String} {af : Array Aej} {gd : Option (Nat × Bool)}
theorem Aao{t' :Ady}{x y:AdC}{g o:Nat}{a m z cells:List Adr}{t:Ady}(hx:Ab ρ x = .pointer (some ⟨g,o,none⟩))(hy:Ab ρ y = .agg cells.toArray)(hg:w.heap[g]? =some (.cells (a++m++z).toArray t (0,0)))(ha:a.length=o)(hm:m.length=cells.length)(hi:(P.info? t').map (·.size)=some cells.length)(h1:∀v∈cells,v.oneCell' =true) 
  (hk:∀w',w'.heap[g]? =some (.cells (a++cells++z).toArray t (0,0))->w.grownBy w' (some g)->w'.heap.size=w.heap.size->K undef w'):Yk P K ((execOp (Ab ρ) ⟨d, .store t' x y,ty,pos,af,gd⟩).run P w):=by
 have hst:=run_storeCells_at P g o t cells 0 (a++m++z).toArray w hg (by simp;omega) h1;have e:((a++m++z).toArray.toList.take (o+0)++cells++(a++m++z).toArray.toList.drop (o+0+cells.length))=a++cells++z:=by
  have b:(a++m++z).take o=a:=by rw[AdW,<-ha,AeJ];rfl
  have c:(a++m++z).drop (o+cells.length)=z:=List.drop_left' (by rw[Adx];omega);rw[List.toList_toArray,AgV,b,c]
 rw[e]at hst;have hr:(Agx t' (.pointer (some ⟨g,o,none⟩)) (.agg cells.toArray)).run P w = .ok () (w.setRow g (a++cells++z).toArray):=by
  cases hq:P.info? t' with
  | none=>simp[hq]at hi
  | some i=>
   have hsz:cells.length=i.size:=by simp[hq]at hi;omega
   simp[Agx,Af0,storeVar,sizeOf,typeInfo,hq,Value.cells,hsz]at hst ⊢;simp[hst]
 unfold execOp;simp only[hx,hy,hr,AdB,AdA,AdF];exact hk _ (setRow_heap w g (a++m++z).toArray _ t (0,0) hg) ⟨rfl,rfl,rfl,by simp,fun k _ hk=>setRow_other w g k _ (fun e=>hk (by rw[e]))⟩ (by simp)
theorem Abp{α:Type}{k:Nat}{enc:α->List Adr}{t e:Ady}(hr:∀(w:Ads),(Ad0 t 0 #[]).run P w = .ok (.slice (some ⟨w.heap.size,0,none⟩) 0 0) (w.alloc (.cells #[] e))) 
  (hk:∀v w',OG w.heap.size e k enc w' v []->Ext w w' ->K v w'):Yk P K ((execOp (Ab ρ) ⟨d, .buildSlice t 0 #[],ty,pos,af,gd⟩).run P w):=by
 have hr' :(execOp (Ab ρ) ⟨d, .buildSlice t 0 #[],ty,pos,af,gd⟩).run P w = .ok (.value (.slice (some ⟨w.heap.size,0,none⟩) 0 0)) (w.alloc (.cells #[] e)):=by
  unfold execOp;simp only[AdH,AdO,AdB,hr,AdA,AdF]
 rw[hr'];refine hk _ _ ⟨fun x hx=>(Aes hx).elim,⟨by simp, .inr ⟨w.heap.size,0,#[],rfl,Adw _,heap_alloc_new w _,Adw _,by simp[maxLen],by simp,by simp⟩⟩⟩ (Below.alloc (Aeo _ _) (Adw _) _)
end
theorem Gr{w:Ads}{α:Type}{b k:Nat}{e:Ady}{enc:α->List Adr}{v:Adr}{l l' :List α}(h:OG b e k enc w v l)(e' :l=l'):OG b e k enc w v l' :=by rw[<-e'];exact h
theorem Hv:Tryz.prog.underlying 43=some (.slice 5):=by kernel_rfl
theorem XW:Tryz.prog.underlying 9=some .string:=by kernel_rfl
theorem QE:(Tryz.prog.info? 5).map (fun i=>(i.zero,i.size,i.bytes))=some (some (.int .u8 0),1,1):=by kernel_rfl

theorem L0(w:Ads)(v:Adr)(l:Ai1)(hr:RB w v l)(hl:l.length+16<=140737488355328):
  Calls Tryz.prog 103 #[v] w fun e w' =>∃v',e = .returned v' /\NewB 5 w w' v' l:=by
 obtain⟨i0,hi,a,c,f⟩:=info_parts QE;have hsrc:∀w' :Ads,w.grownBy w' none->Src Tryz.prog 1 43 v l.length (Adv l) w' :=fun w' hg=>
  (hr.below (B:=w.heap.size) ((Aeo _ _).grown hg (Adw _) (fun k hk=>by cases hk)) rfl).src Hv
 have HS:=Lib.hid hsrc;clear hsrc;obtain⟨h1,ao,cap,rfl,h2,h3,h4,h5⟩:=hr;have h:l.length<=140737488355312:=by omega
 clear h1 h4 h5 hl;unfold maxLen at h3
 go_enter Tryz.func103,Tryz.ntmps103
 go_wp2_with (at_make;refine wpList_make_own _ rfl _ _ 43 rfl w.heap.size 5 i0 (.int .u8 0) 1 Hv hi a c _ _ _ (l.length+16) rfl rfl (by omega) ?b1 ?b2 ?b3 ?_)
 case b1=>rw[f];omega
 case b2=>unfold maxLen;omega
 case b3=>exact Adw _
 intro w1 hown hg;have g:=HS.out w1 hg
 go_wp2_with (at_builtin;refine DC _ rfl _ _ 43 43 rfl w.heap.size 5 i0 (.int .u8 0) 1 1 Hv hi a c f rfl _ _ _ rfl hown _ _ _ rfl g ?c1 ?c2 ?c3 ?_)
 case c1=>unfold maxLen;omega
 case c2=>omega
 case c3=>exact hg.size
 intro v' w2 hown2 hgrow
 go_wp2
 go_ret
 refine⟨v',rfl,by simpa using hown2,Aa hg hgrow.by_ (fun b hb=> ?_)⟩;simp[Aec]at hb;omega
set_option maxRecDepth 100000 in
set_option maxHeartbeats 1000000 in
theorem K4(B n x:Nat)(hx:x<18446744073709551616)(sv:Adr)(xs:List Adr)(w:Ads)(hown:w.ownsRow B 5 1 sv n xs)(hBw:B<=w.heap.size)(hlim:n+10<=140737488355328):
  Calls Tryz.prog 102 #[sv, .int .u64 x] w fun e w' =>∃v',e = .returned v' /\w'.ownsRow B 5 1 v' (n+(AdU x).length) (xs++Adv (AdU x))/\Grew w w' sv v' :=by
 obtain⟨i0,hi,a,b,c⟩:=info_parts QE;have hlen:=Lib.uvarint_length64 hx
 go_enter Tryz.func102,Tryz.ntmps102
 go_wp2
 go_loopw [0,1] (fun vb vx wr=>∃(y:Nat) (pre:Ai1),vx = .int .u64 y/\y<=x/\AdU x=pre++AdU y/\wr.ownsRow B 5 1 vb (n+pre.length) (xs++Adv pre)/\Grew w wr sv vb)
  (fun _ vx _=>(intOf vx).toNat)
 case atStart=>exact⟨x,[],rfl,Adw _,rfl,by simpa [Adv] using hown,Adp _ _⟩
 case round=>
  obtain⟨y,pre,rfl,hy,hsplit,hown1,hnx⟩:=hrel;have hpl:pre.length+(AdU y).length<=10:=by
   have h2:=congrArg List.length hsplit;rw[Adx]at h2;omega
  have hyp:=Lib.uvarint_pos y;have hbw:=hnx.by_.size;by_cases h128:128<=y
  ·have hor:bits .or .u8 ((y:Int)%256) 128=((y%128+128:Nat):Int):=by
    rw[Lib.u8_or128_any _ (by omega) (by omega)];omega
   go_wp2_with (at_builtin;refine DC _ rfl _ _ 43 43 rfl B 5 i0 (.int .u8 0) 1 1 Hv hi a b c rfl _ _ _ rfl (hown1.alloc _) (.slice (some ⟨wr.heap.size,0,none⟩) 1 1) 1 [_] rfl (Sh Hv wr _ _ rfl) ?c1 ?c2 ?c3 ?_)
   case c1=>unfold maxLen;omega
   case c2=>omega
   case c3=>simp;omega
   intro v' w1 hown' hgrow;have hnx1:Grew w w1 sv v' :=(hnx.alloc _).trans hgrow
   go_wp2
   go_roundw
   case rel=>
    refine⟨y/128,pre++ [(y%128+128).toUInt8],by go_num,by omega,by rw[hsplit,Lib.uvarint_big h128];simp,?_,hnx1⟩;have ec:((y%128+128:Nat):Int)=(y:Int)%128+128:=by omega
    rw[Lib.byteCells_snoc pre (by omega),Adx,Ad4,<-Afu,ec];exact hown'
   case measure=>simp[intOf];omega
  ·have hsm:AdU y= [y.toUInt8]:=Lib.uvarint_small (by omega)
   go_wp2_with (at_builtin;refine DC _ rfl _ _ 43 43 rfl B 5 i0 (.int .u8 0) 1 1 Hv hi a b c rfl _ _ _ rfl (hown1.alloc _) (.slice (some ⟨wr.heap.size,0,none⟩) 1 1) 1 [_] rfl (Sh Hv wr _ _ rfl) ?d1 ?d2 ?d3 ?_)
   case d1=>unfold maxLen;omega
   case d2=>omega
   case d3=>simp;omega
   intro v' w1 hown' hgrow;have hnx1:Grew w w1 sv v' :=(hnx.alloc _).trans hgrow
   go_wp2
   go_ret
   refine⟨v',rfl,?_,hnx1⟩;rw[hsplit,hsm,Lib.byteCells_snoc pre (by omega),Adx,Ad4,<-Afu];exact hown'
theorem IM(n:Nat)(h:n<9223372036854775808):(AdU n).length<=9:=Lib.uvarint_length 8 n (Nat.lt_of_lt_of_le h (by decide))

theorem P8(w:Ads)(v:Adr)(l:Ai1)(hr:RB w v l)(hl:l.length+16<=140737488355328)(n:Nat)(hn:n<=9223372036854775807):
  Calls Tryz.prog 56 #[v, .int .i64 n] w fun e w' =>∃v',e = .returned (.tuple #[v', .int .i64 0])/\NewB 5 w w' v' (l++AdU n):=by
 go_enter Tryz.func56,Tryz.ntmps56
 go_wp2_with fail
 refine(L0 _ _ l hr hl).mono ?_;rintro e w1 ⟨a,rfl,h1⟩
 go_wp2_with fail
 refine(K4 w.heap.size l.length n (by omega) a _ w1 h1.own h1.by_.size (by omega)).mono ?_;rintro e w2 ⟨b,rfl,ho,g⟩
 go_wp2_with fail
 go_ret2
 exact⟨b,rfl,h1.more g ho⟩
set_option maxHeartbeats 1600000
abbrev Bs:=Ai1
abbrev Cl:= { l:Ai1 // l.length=32 }
def zid:Cl:=⟨List.replicate 32 0,rfl⟩
theorem NU{l:Ai1}{r:List Adr}(h:l.length=32){k:Nat}:(Adv l++r)[32+k]? =r[k]? :=by
 rw[AeC (by rw[AdG,h];omega),AdG,h,AfE]
theorem QG{l:Ai1}{r:List Adr}{v:Adr}(h:l.length=32){k:Nat}:(Adv l++r).set (32+k) v=Adv l++r.set k v:=by
 rw[List.set_append_right _ _ (by rw[AdG,h];omega),AdG,h,AfE]
theorem Ib{l:List Adr}{n:Nat}{v:Adr}(h:l[n]? =some v):(l.drop n).take 1= [v]:=by
 obtain⟨hn,e⟩:=AdR.1 h;rw[List.drop_eq_getElem_cons hn,e];rfl
theorem Sn{w:Ads}{g o:Nat}{a z:List Adr}{l:Ai1}{t:Ady}{fr:Nat × Nat}(hb:w.heap[g]? =some (.cells (a++Adv l++z).toArray t fr))(ha:a.length=o):w.rangeAt g o (Adv l):=fun j u hu=>by
 refine Ac hb ?_;have hj:=(AdR.1 hu).1;rw[AdW,AeC (by omega),ha,AfE,AeP hj];exact hu
theorem AQ{P:AdM}{t:Ady}{k:Nat}{l:List Adr}(hl:l.length=k)(hi:(P.info? t).map (·.size)=some k):(P.info? t).map (·.size)=some l.toArray.size:=by rw[Ad6,hl];exact hi
theorem PR.blk{w:Ads}{g o:Nat}{cs a z:List Adr}{l:Ai1}{t:Ady}{fr:Nat × Nat}{v:Adr}(hb:w.heap[g]? =some (.cells cs.toArray t fr))(hm:cs=a++Adv l++z)(hn:a.length=o)(hv:v = .pointer (some ⟨g,o,none⟩)):PR (Adv l) v w:=⟨g,o,hv,Sn (by rw[<-hm];exact hb) hn⟩
abbrev AcN:=@PR.blk
theorem Aan{c v:Adr}{w:Ads}(h:PR [c] v w):PCell c v w:=by
 obtain⟨b,o,rfl,h⟩:=h;exact⟨_,rfl,h 0 c rfl⟩
theorem K5{α:Type}{l:List α}(h:l.length=32):∃(a0 a1 a2 a3 a4 a5 a6 a7 a8 a9 a10 a11 a12 a13 a14 a15 a16 a17 a18 a19 a20 a21 a22 a23 a24 a25 a26 a27 a28 a29 a30 a31:α),l= [a0,a1,a2,a3,a4,a5,a6,a7,a8,a9,a10,a11,a12,a13,a14,a15,a16,a17,a18,a19,a20,a21,a22,a23,a24,a25,a26,a27,a28,a29,a30,a31]:=by
 match l,h with
 | [a0,a1,a2,a3,a4,a5,a6,a7,a8,a9,a10,a11,a12,a13,a14,a15,a16,a17,a18,a19,a20,a21,a22,a23,a24,a25,a26,a27,a28,a29,a30,a31],_=>exact⟨a0,a1,a2,a3,a4,a5,a6,a7,a8,a9,a10,a11,a12,a13,a14,a15,a16,a17,a18,a19,a20,a21,a22,a23,a24,a25,a26,a27,a28,a29,a30,a31,rfl⟩
theorem Em{x y:Ai1}(hx:x.length=32)(hy:y.length=32):(Adv x).toArray.size=(Adv y).toArray.size:=by simp[Adv,hx,hy]
section
variable {P : AdM} {K : Adr -> Ads -> Prop} {ρ : Aj} {w : Ads} {d : Option Tmp} {ty : Ady} {pos : String} {af : Array Aej} {gd : Option (Nat × Bool)}
theorem AbM{op:BinOp}(hop:op = .lss\/op = .geq){t ty2:Ady}{x y:AdC}{l m:Ai1}(hx:Ab ρ x=St l)(hy:Ab ρ y=St m)(b:Bool)(hb:b=match op with | .lss=>Op.bytesLess l m | _=> !(Op.bytesLess l m))(hk:K (.bool b) w):Yk P K ((execOp (Ab ρ) ⟨d, .binOp op t x y ty2,ty,pos,af,gd⟩).run P w):=by
 refine AcG (v:= .bool b) (w' :=w) ?_ hk;subst hb;unfold execOp;rcases hop with rfl | rfl
 ·simp only[hx,hy,eqGuard,Aea,Ahb,FF,AdB,AdF];rfl
 ·simp only[hx,hy,eqGuard,Aea,Ahb,FF,AdB,AdF];rfl
end
structure AC where
 kind:UInt8
 name:Bs
 old:Cl
 new:Cl
def updC(x:AC):List Adr:=B8 (x.kind) :: St (x.name) :: (Adv x.old.1++(Adv x.new.1))
theorem Cv(x:AC):(updC x).length=66:=by simp[updC,AdG,(x.old).2,(x.new).2]
theorem Hw{x:AC}:∀u∈updC x,u.oneCell' =true:=by
 intro u hu;simp only[updC,Ad5,Aed,Aes,or_false]at hu;rcases hu with rfl | rfl | hu | hu
 ·rfl
 ·rfl
 ·exact Ay _ u hu
 ·exact Ay _ u hu
theorem EQ(x:AC):(updC x)[0]? =some (B8 (x.kind)):=by
 rfl
theorem DK(x:AC):(updC x)[1]? =some (St (x.name)):=by
 rfl
theorem XX(x:AC)(v:Bs):(updC x).set 1 (St (v))=updC ({ x with name:=v }):=by
 rfl
theorem XY(x:AC):((updC x).drop 1).take 1= [St (x.name)]:=by
 exact Ib (DK x)
def Hx(x:AC):List Adr:=B8 (x.kind) :: St (x.name) :: []
def K6(x:AC):List Adr:=Adv x.new.1
theorem D8(x:AC):updC x=Hx x++Adv x.old.1++K6 x:=by simp[updC,Hx,K6]
theorem En(x:AC):(Hx x).length=2:=by simp[Hx,AdG]
theorem XZ(x:AC)(v:Cl):Hx x++Adv v.1++K6 x=updC ({ x with old:=v }):=(D8 ({ x with old:=v })).symm
def Hy(x:AC):List Adr:=B8 (x.kind) :: St (x.name) :: Adv x.old.1
def K7(x:AC):List Adr:= []
theorem CP(x:AC):updC x=Hy x++Adv x.new.1++K7 x:=by simp[updC,Hy,K7]
theorem C6(x:AC):(Hy x).length=34:=by simp[Hy,AdG,(x.old).2]
theorem X0(x:AC)(v:Cl):Hy x++Adv v.1++K7 x=updC ({ x with new:=v }):=(CP ({ x with new:=v })).symm
structure Ba where
 kind:UInt8
 name:Bs
 old:Cl
 new:Cl
 note:Bs
def entC(x:Ba):List Adr:=B8 (x.kind) :: St (x.name) :: (Adv x.old.1++(Adv x.new.1++(St (x.note) :: [])))
theorem CZ(x:Ba):(entC x).length=67:=by simp[entC,AdG,(x.old).2,(x.new).2]
theorem Gw{x:Ba}:∀u∈entC x,u.oneCell' =true:=by
 intro u hu;simp only[entC,Ad5,Aed,Aes,or_false]at hu;rcases hu with rfl | rfl | hu | hu | rfl
 ·rfl
 ·rfl
 ·exact Ay _ u hu
 ·exact Ay _ u hu
 ·rfl
theorem So(x:Ba):(entC x)[0]? =some (B8 (x.kind)):=by
 rfl
theorem X1(x:Ba)(v:UInt8):(entC x).set 0 (B8 (v))=entC ({ x with kind:=v }):=by
 rfl
theorem Sp(x:Ba):(entC x)[1]? =some (St (x.name)):=by
 rfl
theorem X3(x:Ba)(v:Bs):(entC x).set 1 (St (v))=entC ({ x with name:=v }):=by
 rfl
def Hz(x:Ba):List Adr:=B8 (x.kind) :: St (x.name) :: []
def K8(x:Ba):List Adr:=Adv x.new.1++(St (x.note) :: [])
theorem NV(x:Ba):entC x=Hz x++Adv x.old.1++K8 x:=by simp[entC,Hz,K8]
theorem Sq(x:Ba):(Hz x).length=2:=by simp[Hz,AdG]
theorem X4(x:Ba)(v:Cl):Hz x++Adv v.1++K8 x=entC ({ x with old:=v }):=(NV ({ x with old:=v })).symm
def HA(x:Ba):List Adr:=B8 (x.kind) :: St (x.name) :: Adv x.old.1
def K9(x:Ba):List Adr:=St (x.note) :: []
theorem NW(x:Ba):entC x=HA x++Adv x.new.1++K9 x:=by simp[entC,HA,K9]
theorem Sr(x:Ba):(HA x).length=34:=by simp[HA,AdG,(x.old).2]
theorem X5(x:Ba)(v:Cl):HA x++Adv v.1++K9 x=entC ({ x with new:=v }):=(NW ({ x with new:=v })).symm
theorem HC(x:Ba):(entC x)[66]? =some (St (x.note)):=by
 unfold entC;show(Adv x.old.1++_)[32+32]? =_;rw[NU x.old.2];show(Adv x.new.1++_)[32+0]? =_;rw[NU x.new.2];rfl
theorem X6(x:Ba)(v:Bs):(entC x).set 66 (St (v))=entC ({ x with note:=v }):=by
 unfold entC;refine congrArg (AhT _) ?_;refine congrArg (AhT _) ?_;show(Adv x.old.1++_).set (32+32) _=_;rw[QG x.old.2];refine congrArg (Adv x.old.1 ++ ·) ?_;show(Adv x.new.1++_).set (32+0) _=_;rw[QG x.new.2];refine congrArg (Adv x.new.1 ++ ·) ?_;rfl
structure AK where
 name:Bs
 id:Cl
def nmdC(x:AK):List Adr:=St (x.name) :: Adv x.id.1
theorem BA(x:AK):(nmdC x).length=33:=by simp[nmdC,AdG,(x.id).2]
theorem Ec{x:AK}:∀u∈nmdC x,u.oneCell' =true:=by
 intro u hu;simp only[nmdC,Ad5,Aed,Aes,or_false]at hu;rcases hu with rfl | hu
 ·rfl
 ·exact Ay _ u hu
theorem Eo(x:AK):(nmdC x)[0]? =some (St (x.name)):=by
 rfl
theorem NX(x:AK):((nmdC x).drop 0).take 1= [St (x.name)]:=by
 exact Ib (Eo x)
def La(x:AK):List Adr:=St (x.name) :: []
def Ss(x:AK):List Adr:= []
theorem FY(x:AK):nmdC x=La x++Adv x.id.1++Ss x:=by simp[nmdC,La,Ss]
theorem FZ(x:AK):(La x).length=1:=by simp[La,AdG]
theorem Lb(x:AK):((nmdC x).drop 1).take 32=Adv x.id.1:=by
 rw[FY,AdW,<-FZ x,List.drop_left,AeJ (by rw[AdG,x.id.2])]
structure Au where
 branches:List AK
 tags:List AK
 head:Bs
 at_:Cl
 log:List Ba
structure YW where
 branches:Adr
 tags:Adr
 log:Adr
abbrev Af:=Au × YW
def refsC(x:Af):List Adr:=x.2.branches :: x.2.tags :: St (x.1.head) :: (Adv x.1.at_.1++(x.2.log :: []))
theorem An(x:Af):(refsC x).length=36:=by simp[refsC,AdG,(x.1.at_).2]
theorem AS{x:Af}(h0:x.2.branches.oneCell' =true)(h1:x.2.tags.oneCell' =true)(h2:x.2.log.oneCell' =true):∀u∈refsC x,u.oneCell' =true:=by
 intro u hu;simp only[refsC,Ad5,Aed,Aes,or_false]at hu;rcases hu with rfl | rfl | rfl | hu | rfl
 ·exact h0
 ·exact h1
 ·rfl
 ·exact Ay _ u hu
 ·exact h2
theorem Br(x:Af):(refsC x)[0]? =some (x.2.branches):=by
 rfl
theorem HE(x:Af)(v:Adr)(l:List AK):(refsC x).set 0 (v)=refsC (({ x.1 with branches:=l },{ x.2 with branches:=v })):=by
 rfl
theorem BQ(x:Af):(refsC x)[1]? =some (x.2.tags):=by
 rfl
theorem HF(x:Af)(v:Adr)(l:List AK):(refsC x).set 1 (v)=refsC (({ x.1 with tags:=l },{ x.2 with tags:=v })):=by
 rfl
theorem Cw(x:Af):(refsC x)[2]? =some (St (x.1.head)):=by
 rfl
theorem L1(x:Af)(v:Bs):(refsC x).set 2 (St (v))=refsC (({ x.1 with head:=v },x.2)):=by
 rfl
def E9(x:Af):List Adr:=x.2.branches :: x.2.tags :: St (x.1.head) :: []
def Gx(x:Af):List Adr:=x.2.log :: []
theorem Cx(x:Af):refsC x=E9 x++Adv x.1.at_.1++Gx x:=by simp[refsC,E9,Gx]
theorem CH(x:Af):(E9 x).length=3:=by simp[E9,AdG]
theorem L2(x:Af)(v:Cl):E9 x++Adv v.1++Gx x=refsC (({ x.1 with at_:=v },x.2)):=(Cx (({ x.1 with at_:=v },x.2))).symm
theorem Bv(x:Af):(refsC x)[35]? =some (x.2.log):=by
 unfold refsC;show(Adv x.1.at_.1++_)[32+0]? =_;rw[NU x.1.at_.2];rfl
theorem Gy(x:Af)(v:Adr)(l:List Ba):(refsC x).set 35 (v)=refsC (({ x.1 with log:=l },{ x.2 with log:=v })):=by
 unfold refsC;refine congrArg (AhT _) ?_;refine congrArg (AhT _) ?_;refine congrArg (AhT _) ?_;show(Adv x.1.at_.1++_).set (32+0) _=_;rw[QG x.1.at_.2];refine congrArg (Adv x.1.at_.1 ++ ·) ?_;rfl
structure Rd where
 b:Bs
 at_:Int
structure ZC where
 b:Adr
abbrev DL:=Rd × ZC
def B0(x:DL):List Adr:=x.2.b :: .int .i64 (x.1.at_) :: []
theorem C7(x:DL):(B0 x).length=2:=by simp[B0,AdG]
theorem Cr(x:DL):(B0 x)[0]? =some (x.2.b):=by
 rfl
theorem B9(x:DL):(B0 x)[1]? =some (.int .i64 (x.1.at_)):=by
 rfl
theorem DE(x:DL)(v:Int):(B0 x).set 1 (.int .i64 (v))=B0 (({ x.1 with at_:=v },x.2)):=by
 rfl
abbrev AD:AC:=⟨0,[],zid,zid⟩
abbrev Ap:Ba:=⟨0,[],zid,zid,[]⟩
abbrev dNmd:AK:=⟨[],zid⟩
open Go.ChangeShapes Go.WideShapes Go.ChangeAt Go.RowKit Go.Deep
section
variable {H : Type} (enc : Ady × Adr -> H) (P : AdM) (W : Ads)
def Opn{α:Type}(t:Ady)(f:α->List Adr)(OK:α->Prop):Prop:=
 ∀fuel cs (x:DataW H × List MemPlace),Ahw enc P W 0 (fun _=>true) true fuel t cs=some x->∃a,cs=f a/\OK a
end
section
variable {H : Type} {enc : Ady × Adr -> H} {P : AdM} {W : Ads}
theorem Opn.u8{t:Ady}(ht:P.underlying t=some (.int .u8)):Opn enc P W t (fun b:UInt8=> [B8 b]) (fun _=>True):=fun fuel cs x h=>by
 obtain⟨n,rfl,-,hw⟩:=Aif ht h;have hb:0<=n/\n<=255:=by simpa [Lit.wf,Ah5,Ah6,AfZ,Afl] using hw
 refine⟨UInt8.ofNat n.toNat,?_,trivial⟩
 congr 2
 simp;omega
theorem Opn.i64{t:Ady}(ht:P.underlying t=some (.int .i64)):Opn enc P W t (fun z:Int=> [.int .i64 z]) (fun z=> -9223372036854775808<=z/\z<=9223372036854775807):=fun fuel cs x h=>by
 obtain⟨n,rfl,-,hw⟩:=Aif ht h;exact⟨n,rfl,by simpa [Lit.wf,Ah5,Ah6,AfZ,Afl] using hw⟩
abbrev Adg:=@Opn.i64
theorem Abq{t:Ady}(ht:P.underlying t=some .string):Opn enc P W t (fun l:Bs=> [St l]) (fun l=>l.length<=9223372036854775807):=fun fuel cs x h=>by
 obtain⟨s,rfl,-,hs⟩:=DataW.trod_string ht h;refine⟨s.data.toList,by simp,?_⟩;have:s.data.size<=9223372036854775807:=Adu hs (by decide)
 simpa using this
theorem Opn.id{t e:Ady}(ht:P.underlying t=some (.array 32 e))(he:P.underlying e=some (.int .u8))(hc:P.cellsOf e=1)(hn:P.cellsOf t=32):Opn enc P W t (fun b:Cl=>Adv b.1) (fun _=>True):=fun fuel cs x h=>by
 obtain⟨l,hl,rfl⟩:=UI ht he hc hn h;exact⟨⟨l,hl⟩,rfl,trivial⟩
theorem Opn.bytes{t e:Ady}(ht:P.underlying t=some (.slice e))(he:P.underlying e=some (.int .u8))(hc:P.cellsOf e=1):Opn enc P W t (fun v:Adr × Bs=> [v.1]) (fun v=>RB W v.1 v.2):=fun fuel cs x h=>by
 obtain⟨c,l,rfl,h1,-⟩:=Ps ht he hc h;exact⟨(c,l),rfl,h1⟩
theorem Ml{α:Type}{k:Nat}{f:α->List Adr}(d:α):∀(l:List α),(∀x∈l,(f x).length=k)->∀i r,r<k->i<l.length->(l.flatMap f)[i*k+r]? =(f (l.getD i d))[r]?
 | [],_,i,r,_,hi=>by cases hi
 | a :: l,h,0,r,hr,_=>by
  rw[Aen,Af3,Afa,AeP (by rw[h a (by simp)];exact hr)];rfl
 | a :: l,h,i+1,r,hr,hi=>by
  have ha:=h a (by simp);rw[Aen,AeC (by rw[ha,AeQ];omega),ha,show(i+1)*k+r-k=i*k+r by rw[AeQ];omega];exact Ml d l (fun x hx=>h x (by simp[hx])) i r hr (by simpa using hi)
theorem I5{α:Type}{k:Nat}{f:α->List Adr}:∀(l:List α),(∀x∈l,(f x).length=k)->(l.flatMap f).length=l.length*k
 | [],_=>by simp
 | a :: l,h=>by rw[Aen,Adx,h a (by simp),I5 l (fun x hx=>h x (by simp[hx])),AdJ,AeQ];omega
theorem Opn.slice{α:Type}[Inhabited α]{k:Nat}{f:α->List Adr}{OK:α->Prop}{t e:Ady}(ht:P.underlying t=some (.slice e))(hc:P.cellsOf e=k)(hk:0<k)(hE:Opn enc P W e f OK)(hl:∀a,OK a->(f a).length=k):
  Opn enc P W t (fun v:Adr × List α=> [v.1]) (fun v=>RG k f W v.1 v.2/\∀a∈v.2,OK a):=fun fuel cs x h=>by
 rcases open_slice ht h with ⟨rfl,-⟩ | ⟨a,len,cap,m,n,D,Pl,rfl,-,h1,h2,h3,-,h4⟩
 ·exact⟨(_,[]),rfl,RG.nil _ _ _,fun a ha=>by cases ha⟩
 ·have hm:m=cap:=by simpa using h3
  obtain⟨L,hL⟩:=choose_lt (α:=α) (p:=fun i q=>W.cells? 0 (a.add (i*k)) k=some (f q)/\OK q) (fun i (hi:i<len)=>by
   obtain⟨cs',c1,c2⟩:=h4 i (by omega);obtain⟨q,rfl,hq⟩:=hE _ _ _ c2;rw[hc]at c1;exact⟨q,c1,hq⟩)
  have hall:∀x∈(Afj len).map L,(f x).length=k/\OK x:=fun x hx=>by
   obtain⟨i,hi,rfl⟩:=Aeq.1 hx;have:=hL i (by simpa using hi);exact⟨hl _ this.2,this.2⟩
  have hlen:((Afj len).map L).length=len:=by simp
  refine⟨(.slice (some a) len cap,(Afj len).map L),rfl,⟨fun x hx=>(hall x hx).1,by rw[I5 _ (fun x hx=>(hall x hx).1)],some a,cap,by rw[hlen],by rw[hlen];exact h1,h2,(fun h=>by cases h),fun a' ha j u hu=> ?_⟩,fun x hx=>(hall x hx).2⟩;cases ha;have hj:j<len*k:=by
   have:=(AdR.1 hu).1
   rwa [I5 _ (fun x hx=>(hall x hx).1),hlen]at this
  have hi:j/k<len:=Nat.div_lt_of_lt_mul (by rw[AhB];exact hj);have hr:j%k<k:=Nat.mod_lt _ hk;have hjk:j/k*k+j%k=j:=by rw[AhB];exact Nat.div_add_mod j k
  rw[<-hjk,Ml default _ (fun x hx=>(hall x hx).1) _ _ hr (by rw[hlen];exact hi)]at hu;have hg:((Afj len).map L).getD (j/k) default=L (j/k):=by
   rw[Adz,List.getElem?_map,List.getElem?_range hi];rfl
  rw[hg]at hu;obtain⟨-,-,hcell⟩:=World.cells?_some (hL _ hi).1;have:=hcell (j%k) hr;rw[GE,hjk,hu]at this;exact this
abbrev Adk:=@Opn.slice
theorem ZD{cs m:List Adr}{o k:Nat}(h:(cs.drop o).take k=m):cs.drop o=m++cs.drop (o+k):=by
 rw[<-h,<-List.drop_drop,List.take_append_drop]
theorem BI{t ty:Ady}{i o k fuel:Nat}{cs:List Adr}{x:DataW H × List MemPlace}{α:Type}{f:α->List Adr}{OK:α->Prop}(ht:P.underlying t=some (.struct (P.fieldsOf t)))(h:Ahw enc P W 0 (fun _=>true) true fuel t cs=some x) 
  (hf:((P.fieldsOf t)[i]?).map (fun f=>(f.type,f.offset))=some (ty,o)) (hk:P.cellsOf ty=k) (hE:Opn enc P W ty f OK):∃a,cs.drop o=f a++cs.drop (o+k)/\OK a:=by
 obtain⟨xs,n,-,-,-,hl,hx⟩:=DataW.trod_struct ht h;obtain⟨g,hg,he⟩:=Option.map_eq_some_iff.1 hf;have h1:=hx i g hg;cases he;have hi:i<xs.length:=by rw[hl];exact(Aef.1 hg).1
 rw[AdE hi,hk]at h1;obtain⟨a,h2,h3⟩:=hE _ _ _ h1;exact⟨a,ZD h2,h3⟩
theorem Ic{t:Ady}{fuel:Nat}{cs:List Adr}{x:DataW H × List MemPlace}(ht:P.underlying t=some (.struct (P.fieldsOf t)))(h:Ahw enc P W 0 (fun _=>true) true fuel t cs=some x):cs.length=P.cellsOf t:=by
 obtain⟨xs,n,-,-,hl,-,-⟩:=DataW.trod_struct ht h;exact hl
end
def Yp(P:AdM)(K:Adr->Ads->Prop)(J:List PanicEntry->Ads->Prop):Aig Next->Prop
 | .ok (.value v) w=>K v w
 | .ok .skip w=>K undef w
 | .ok (.enter f args) w=>Calls P f args w fun e w' =>match e with | .returned v=>K v w' | .panicked ch=>J ch w' | .outgrown=>False
 | .halt (.panic v) w=>J [{ v,recovered:=false }] w
 | _=>False
section
variable {P : AdM} {n : Nat} {Q : Bi} {ρ : Aj} {w : Ads}
theorem Yp.ofK{K:Adr->Ads->Prop}{J:List PanicEntry->Ads->Prop}{r:Aig Next}(h:Yk P K r):Yp P K J r:=by
 unfold Yk at h;split at h
 ·exact h
 ·exact h
 ·exact h.mono fun e w' hx=>by
   obtain⟨v,rfl,hk⟩:=hx;exact hk
 ·exact h.elim
theorem oP{ops:Array AdL}{rest:List AdL}{dst:Option Tmp}{op:Op}{ty:Ady}{pos:String}{af:Array Aej}(hd:(match dst with | some d=>Ae5 d n | none=>true)=true) 
  (h:Yp P (fun v w' =>B2 P ops n Q rest (updO ρ dst v) w') (fun ch w' =>Q (.panic ch) ρ w') ((execOp (Ab ρ) ⟨dst,op,ty,pos,af,none⟩).run P w)):B2 P ops n Q (⟨dst,op,ty,pos,af,none⟩ :: rest) ρ w:=by
 intro a ha;have hdn:∀t,dst=some t->t<n:=fun t ht=>by subst ht;exact AdD hd
 refine wpList_plain rfl fun K hK=> ?_;unfold AfG AfY;rw[ha.eval];have hput:=fun v=>ha.put dst hdn v
 revert h
 generalize (execOp (Ab ρ) ⟨dst,op,ty,pos,af,none⟩).run P w=r
 intro h
 match r,h with
 | .ok (.value v) w',h=>exact hK _ _ (h _ (hput v))
 | .ok .skip w',h=>exact hK _ _ (h _ (hput undef))
 | .halt (.panic v) w',h=>exact⟨ρ,ha,h⟩
 | .ok (.enter f args) w',h=>
  refine Aft h ?_;intro e w'' hx
  match e,hx with
  | .returned v,hx=>exact hK _ _ (hx _ (hput v))
  | .panicked ch,hx=>exact⟨ρ,ha,hx⟩
theorem Yp.call{f:Afi}{args:Array AdC}{at_:Array Ady}{dst:Option Tmp}{ty:Ady}{pos:String}{af:Array Aej}{gd:Option (Nat × Bool)}{K:Adr->Ads->Prop}{J:List PanicEntry->Ads->Prop}(hp:Plain P f)(vs:List Adr)(hv:args.toList.map (Ab ρ)=vs) 
  (h:Calls P f vs.toArray w fun e w' =>match e with | .returned v=>K v w' | .panicked ch=>J ch w' | .outgrown=>False):Yp P K J ((execOp (Ab ρ) ⟨dst, .call ⟨.value (.func f),args,at_⟩,ty,pos,af,gd⟩).run P w):=by
 subst hv;have hr:=IV hp (Ab ρ) args.toList at_ dst ty pos af gd w rfl;rw[Array.toArray_toList]at hr;rw[hr];exact h
theorem Ao{f:Afi}{args:Array Adr}{K:Adr->Ads->Prop}{J:List PanicEntry->Ads->Prop}{A:Adr->Ads->Prop}{B:List PanicEntry->Ads->Prop}(h:Calls P f args w fun e w' =>(∃v,e = .returned v/\A v w')\/∃ch,e = .panicked ch/\B ch w') 
  (hA:∀v w',A v w' ->K v w') (hB:∀ch w',B ch w' ->J ch w'):Calls P f args w fun e w' =>match e with | .returned v=>K v w' | .panicked ch=>J ch w' | .outgrown=>False:=
 h.mono fun e w' hx=>by
  rcases hx with ⟨v,rfl,h1⟩ | ⟨ch,rfl,h1⟩
  ·exact hA v w' h1
  ·exact hB ch w' h1
theorem Yp.panic{dst:Option Tmp}{ty:Ady}{pos:String}{af:Array Aej}{gd:Option (Nat × Bool)}{K:Adr->Ads->Prop}{J:List PanicEntry->Ads->Prop}{x:AdC}{u:Ady}{v:Adr}(hx:Ab ρ x = .iface u v)(h:J [{ v:= .iface u v,recovered:=false }] w):
  Yp P K J ((execOp (Ab ρ) ⟨dst, .panic x,ty,pos,af,gd⟩).run P w):=by
 have hr:(execOp (Ab ρ) ⟨dst, .panic x,ty,pos,af,gd⟩).run P w = .halt (.panic (.iface u v)) w:=by
  simp[execOp,hx,Instr.panic,goPanic]
 rw[hr];exact h
section
variable {Q : Bi} {K : Aj -> Ads -> Prop} {ch : List PanicEntry}
theorem He(h:Q (.panic ch) ρ w):EE K Q (.panic ch) ρ w:=h
theorem HH{i:Nat}(h:Q (.panic ch) ρ w):C2 i Q (.panic ch) ρ w:=h
end
def Du(P:AdM)(fn:Func)(R:Ending->Ads->Prop):Bi
 | .normal,ρ,w | .ret,ρ,w=>∀tmps:Array Adr,(∀t,tmps.getD t undef=ρ t)->∃v,(results fn tmps).run P w = .ok v w/\R (.returned v) w
 | .panic ch,_,w=>R (.panicked ch) w
 | _,_,_=>False
theorem I6{f:Afi}{fn:Func}{c:Code}{args:List Adr}{R:Ending->Ads->Prop}(hf:P.funcs[f]? =some fn)(hb:fn.body=some c)(m:Nat)(hm:fn.ntmps=m)(hn:args.length<=m) 
  (h:∀ρ,Begun args ρ->Cm P m c (Du P fn R) ρ w):Calls P f args.toArray w R:=by
 subst hm;refine calls_of_wp hf hb ?_;have hget:∀t,(args.toArray++Afc (fn.ntmps-args.toArray.size) undef).getD t undef=args.getD t undef:=fun t=>by
  simp only[Ad8,Adz,Array.getElem?_append,Ad6,Aeh];by_cases ht:t<args.length
  ·rw[if_pos ht]
  ·rw[if_neg ht,AeX (by omega),Afm];split <;> rfl
 refine wp_mono (h (fun t=>args.getD t undef) ⟨fun _=>rfl⟩ _ ⟨?_,rfl,hget⟩) ?_
 ·simp;omega
 ·rintro e a' w' ⟨ρ',hf',hQ⟩;have fin:(∀tmps:Array Adr,(∀t,tmps.getD t undef=ρ' t)->∃v,(results fn tmps).run P w' = .ok v w' /\R (.returned v) w')->a'.defers= []/\∃v,(results fn a'.tmps).run P w' = .ok v w' /\R (.returned v) w' :=
   fun h=>⟨hf'.defers,h a'.tmps hf'.get⟩
  cases e with
  | normal=>exact fin hQ
  | ret=>exact fin hQ
  | panic ch=>exact⟨hf'.defers,hQ⟩
  | exit _=>exact hQ.elim
  | goto _=>exact hQ.elim
  | outgrown=>exact hQ.elim
theorem Fa{fn:Func}{R:Ending->Ads->Prop}(rs:List ResultVar)(hrs:fn.results=rs.toArray)(vs:List Adr)(v:Adr)(hv:IZ vs=v)(h:Ht P ρ w rs vs)(hR:R (.returned v) w):Du P fn R .ret ρ w:=
 fun _ ht=>⟨_,H7 hrs ht h,by rw[hv];exact hR⟩
theorem G3{fn:Func}{R:Ending->Ads->Prop}(rs:List ResultVar)(hrs:fn.results=rs.toArray)(vs:List Adr)(v:Adr)(hv:IZ vs=v)(h:Ht P ρ w rs vs)(hR:R (.returned v) w):Du P fn R .normal ρ w:=
 fun _ ht=>⟨_,H7 hrs ht h,by rw[hv];exact hR⟩
theorem Aq{fn:Func}{R:Ending->Ads->Prop}{ch:List PanicEntry}(h:R (.panicked ch) w):Du P fn R (.panic ch) ρ w:=h
end
theorem Al{G:Bool}{v x:Adr}(hx:x=cond G v undef)(h:G=true):x=v:=by rw[hx,h];rfl
theorem BB{G:Bool}{v:Adr}(h:G=true):v=cond G v undef:=by rw[h];rfl
theorem BC{G:Bool}{v:Adr}(h:G=false):undef=cond G v undef:=by rw[h];rfl
theorem Zn{G:Bool}{p:Prop}(h:G=false)(k:G=true):p:=by rw[h]at k;cases k
theorem Stab.may{R:Ads->Ads->Prop}{f:BH}{p:Prop}(h:Stab R f):Stab R (fun x w=>p->f x w):=fun x w w' k r e=>h x w w' (k e) r
theorem Gs{a b:Bool}(h:a=true)(k:b=true):(a&&b)=true:=by rw[h,k];rfl
theorem BJ{a:Bool}(h:a=false):(!a)=true:=by rw[h];rfl
theorem YX{a:Bool}(h:(!a)=false):a=true:=by revert h;cases a <;> simp
theorem gA(a b:Bool):((a&&b)=true)=(a=true/\b=true):=propext (Bool.and_eq_true_iff)
theorem gB(a:Bool):((!a)=true)=(a=false):=propext (by cases a <;> simp)
theorem gC(a b:Bool):((a||b)=false)=(a=false/\b=false):=propext Bool.or_eq_false_iff
theorem gD(p:Prop)[Decidable p]:(decide p=true)=p:=propext decide_eq_true_iff
theorem gE(p:Prop)[Decidable p]:(decide p=false)=¬p:=propext decide_eq_false_iff_not
theorem YY{a:Bool}(h:(!a)=true):a=false:=by revert h;cases a <;> simp
theorem gT{x:Adr}{c:Bool}(h:x = .bool c):c=true↔x = .bool true:=by
 subst h;exact⟨fun h=>by rw[h],fun h=>by injection h⟩
theorem gF{x:Adr}{c:Bool}(h:x = .bool c):(!c)=true↔x = .bool false:=by
 subst h;cases c <;> simp
theorem Gl{x:Adr}{E c:Bool}(h:x=cond E (.bool c) undef):(E&&c)=true↔x = .bool true:=by
 subst h;cases E <;> cases c <;> simp[undef]
theorem FB{x:Adr}{E c:Bool}(h:x=cond E (.bool c) undef):(E&& !c)=true↔x = .bool false:=by
 subst h;cases E <;> cases c <;> simp[undef]
theorem QH{o:AdL}{ops:Array AdL}{T:Array Adr}{g d:Nat}{want:Bool}(hgd:o.guard=some (g,want))(hg:(ops[g]?).bind (·.dst)=some d)(h:T.getD d undef ≠ .bool want):AeA o (yielded ops T)=false:=by
 simp only[AeA,hgd,yielded,hg];rw[Ad8]at h;cases hx:T[d]? with
 | none=>simp[hx]
 | some x=>
  rw[hx]at h;cases x <;> simp[hx]
  rename_i b
  intro hb;exact h (by simp[hb])
section
variable {P : AdM} {n : Nat} {Q : Bi} {ρ : Aj} {w : Ads} {K : Adr -> Ads -> Prop} {d : Option Tmp} {ty : Ady} {pos : String} {af : Array Aej} {gd : Option (Nat × Bool)}
theorem Yk.mono{K' :Adr->Ads->Prop}{r:Aig Next}(h:Yk P K r)(hk:∀v w,K v w->K' v w):Yk P K' r:=by
 match r,h with
 | .ok (.value v) w,h=>exact hk _ _ h
 | .ok .skip w,h=>exact hk _ _ h
 | .ok (.enter f args) w,h=>exact Aft h (fun e w ⟨v,a,h⟩=>⟨v,a,hk _ _ h⟩)
abbrev Ac9:=@Yk.mono
theorem I7{ops:Array AdL}{rest:List AdL}{dst:Option Tmp}{op:Op}{g:Nat}{want:Bool}{t:Tmp}{G:Bool}(R:Adr->Ads->Prop)(hd:(match dst with | some d=>Ae5 d n | none=>true)=true)(hg:(ops[g]?).bind (·.dst)=some t)(hG:G=true↔ρ t = .bool want) 
  (h1:G=true->Yk P R ((execOp (Ab ρ) ⟨dst,op,ty,pos,af,some (g,want)⟩).run P w))
  (h2:∀x w',(G=true->R x w')->(G=false->x=undef/\w' =w)->B2 P ops n Q rest (updO ρ dst x) w'):B2 P ops n Q (⟨dst,op,ty,pos,af,some (g,want)⟩ :: rest) ρ w:=by
 cases hb:G with
 | true=>
  refine oY hd hg (hG.1 hb) (Ac9 (h1 hb) ?_);intro x w' h;exact h2 x w' (fun _=>h) (fun e=>by rw[hb]at e;cases e)
 | false=>
  intro a ha;have hdn:∀t,dst=some t->t<n:=fun t ht=>by subst ht;exact AdD hd
  have hw:AeA ⟨dst,op,ty,pos,af,some (g,want)⟩ (yielded ops a.tmps)=false:=QH rfl hg (fun e=>by
   have:=hG.2 ((ha.get t).symm.trans e);rw[hb]at this;cases this)
  refine wpList_step fun K hK=> ?_;rw[if_neg (by rw[hw];simp)];exact hK _ _ (h2 undef w (fun e=>by rw[hb]at e;cases e) (fun _=>⟨rfl,rfl⟩) _ (ha.put dst hdn undef))
theorem Ae{ops:Array AdL}{rest:List AdL}{dst:Option Tmp}{op:Op}{g:Nat}{want:Bool}{t:Tmp}{G:Bool}(v:Adr)(hd:(match dst with | some d=>Ae5 d n | none=>true)=true)(hg:(ops[g]?).bind (·.dst)=some t)(hG:G=true↔ρ t = .bool want) 
  (h1:G=true->Yk P (fun x w' =>x=v/\w' =w) ((execOp (Ab ρ) ⟨dst,op,ty,pos,af,some (g,want)⟩).run P w))
  (h2:B2 P ops n Q rest (updO ρ dst (cond G v undef)) w):B2 P ops n Q (⟨dst,op,ty,pos,af,some (g,want)⟩ :: rest) ρ w:=by
 refine I7 _ hd hg hG h1 fun x w' k1 k2=> ?_;cases hb:G with
 | true=>obtain⟨rfl,rfl⟩:=k1 hb;rw[hb]at h2;exact h2
 | false=>obtain⟨rfl,rfl⟩:=k2 hb;rw[hb]at h2;exact h2
theorem Cg{ops:Array AdL}{rest:List AdL}{dst:Option Tmp}{op:Op}{g:Nat}{want:Bool}{t:Tmp}{G:Bool}(v:Adr)(hd:(match dst with | some d=>Ae5 d n | none=>true)=true)(hg:(ops[g]?).bind (·.dst)=some t)(hG:G=true↔ρ t = .bool want) 
  (h1:G=true->Yk P (fun x w' =>x=v/\Ext w w') ((execOp (Ab ρ) ⟨dst,op,ty,pos,af,some (g,want)⟩).run P w))
  (h2:∀w',Ext w w' ->B2 P ops n Q rest (updO ρ dst (cond G v undef)) w'):B2 P ops n Q (⟨dst,op,ty,pos,af,some (g,want)⟩ :: rest) ρ w:=by
 refine I7 _ hd hg hG h1 fun x w' k1 k2=> ?_;cases hb:G with
 | true=>obtain⟨rfl,h⟩:=k1 hb;have:=h2 _ h;rw[hb]at this;exact this
 | false=>obtain⟨rfl,rfl⟩:=k2 hb;have:=h2 _ (Acz _);rw[hb]at this;exact this
theorem Ep{ops:Array AdL}{rest:List AdL}{dst:Option Tmp}{op:Op}{g:Nat}{want:Bool}{t:Tmp}{G:Bool}(R:Adr->Prop)(hd:(match dst with | some d=>Ae5 d n | none=>true)=true)(hg:(ops[g]?).bind (·.dst)=some t)(hG:G=true↔ρ t = .bool want) 
  (h1:G=true->Yk P (fun x w' =>R x/\w' =w) ((execOp (Ab ρ) ⟨dst,op,ty,pos,af,some (g,want)⟩).run P w))
  (h2:∀x,(G=true->R x)->B2 P ops n Q rest (updO ρ dst x) w):B2 P ops n Q (⟨dst,op,ty,pos,af,some (g,want)⟩ :: rest) ρ w:=by
 refine I7 _ hd hg hG h1 fun x w' k1 k2=> ?_;have e:w' =w:=by
  cases hb:G with
  | true=>exact(k1 hb).2
  | false=>exact(k2 hb).2
 subst e;exact h2 x (fun h=>(k1 h).1)
theorem Aar{c x y:AdC}{a b:Bool}(hc:Ab ρ c = .bool a)(hx:a=true->Ab ρ x = .bool b)(hy:Ab ρ y = .bool false)(hk:K (.bool (a&&b)) w):Yk P K ((execOp (Ab ρ) ⟨d, .pick c x y,ty,pos,af,gd⟩).run P w):=by
 cases a with
 | true=>exact Z1 hc (hx rfl) hk
 | false=>exact Z4 hc hy hk
theorem Aax{c x y:AdC}{a b:Bool}(hc:Ab ρ c = .bool a)(hx:Ab ρ x = .bool true)(hy:a=false->Ab ρ y = .bool b)(hk:K (.bool (a||b)) w):Yk P K ((execOp (Ab ρ) ⟨d, .pick c x y,ty,pos,af,gd⟩).run P w):=by
 cases a with
 | true=>exact Z1 hc hx hk
 | false=>exact Z4 hc (hy rfl) hk
theorem Z9{c x y:AdC}{a b:Bool}(hc:Ab ρ c = .bool a)(hx:a=true->Ab ρ x = .bool b)(hy:Ab ρ y = .bool false)(hk:∀r,r=(a&&b)->K (.bool r) w):Yk P K ((execOp (Ab ρ) ⟨d, .pick c x y,ty,pos,af,gd⟩).run P w):=Aar hc hx hy (hk _ rfl)
theorem Z6{c x y:AdC}{a b:Bool}(hc:Ab ρ c = .bool a)(hx:Ab ρ x = .bool true)(hy:a=false->Ab ρ y = .bool b)(hk:∀r,r=(a||b)->K (.bool r) w):Yk P K ((execOp (Ab ρ) ⟨d, .pick c x y,ty,pos,af,gd⟩).run P w):=Aax hc hx hy (hk _ rfl)
theorem Er{ops:Array AdL}{rest:List AdL}{dst:Option Tmp}{op:Op}{g:Nat}{want:Bool}{t:Tmp}{G:Bool}(e:Bool)(hd:(match dst with | some d=>Ae5 d n | none=>true)=true)(hg:(ops[g]?).bind (·.dst)=some t)(hG:G=true↔ρ t = .bool want) 
 (h1:G=true->Yk P (fun x w' =>x = .bool e/\w' =w) ((execOp (Ab ρ) ⟨dst,op,ty,pos,af,some (g,want)⟩).run P w))
 (h2:∀b,b=e->B2 P ops n Q rest (updO ρ dst (cond G (.bool b) undef)) w):B2 P ops n Q (⟨dst,op,ty,pos,af,some (g,want)⟩ :: rest) ρ w:=Ae (.bool e) hd hg hG h1 (h2 _ rfl)
variable {l : List AdL} {Φ : Nat -> BH}
theorem Bd{C:Nat->Ads->Prop}{R:Nat->Ads->Ads->Prop}{k:Nat}{o:AdL}(g:Nat)(want:Bool)(t:Tmp){G:Bool}(hg:o.guard=some (g,want))(hd:(l[g]?).bind (·.dst)=some t) 
  (hv:∀x w,KY l Φ ρ k t x w->(G=true↔x = .bool want)) (hu:G=false->∀w,Φ k undef w)
  (h:G=true->∀σ w,C k w->(∀t∈o.looksAt l.toArray,KY l Φ ρ k t (σ t) w)->Yk P (fun v w' =>R k w w' /\Φ k v w') ((execOp (Ab σ) o).run P w)):H5 P l C R Φ ρ k o:=by
 intro σ w hC hl;have hin:t∈o.looksAt l.toArray:=by
  unfold Oper.looksAt;refine AeY _ ?_;rw[hg];simp[hd]
 have hq:=hv _ _ (hl t hin);cases hb:G with
 | true=>
  have:A9 l o σ=true:=by
   unfold A9;rw[hg];simp only[hd,hq.1 hb];simp
  rw[if_pos this];exact h hb σ w hC hl
 | false=>
  have:A9 l o σ=false:=by
   unfold A9;rw[hg];simp only[hd];cases hx:σ t <;> simp
   rename_i b
   intro e;have:=hq.2 (by rw[hx,e]);rw[hb]at this;cases this
  rw[if_neg (by rw[this];simp)];exact hu hb w
end
theorem Abr{P:AdM}{K K' :Adr->Ads->Prop}{J J' :List PanicEntry->Ads->Prop}{r:Aig Next}(h:Yp P K J r)(hm:∀v w,K v w->K' v w)(hj:∀c w,J c w->J' c w):Yp P K' J' r:=by
 match r,h with
 | .ok (.value v) w',h=>exact hm _ _ h
 | .ok .skip w',h=>exact hm _ _ h
 | .halt (.panic v) w',h=>exact hj _ _ h
 | .ok (.enter f args) w',h=>
  refine Aft h fun e w'' hx=> ?_
  match e,hx with
  | .returned v,hx=>exact hm _ _ hx
  | .panicked ch,hx=>exact hj _ _ hx
section
variable {P : AdM} {l : List AdL} {kill : Nat -> List Nat} {C : Nat -> Ads -> Prop} {R : Nat -> Ads -> Ads -> Prop} {Φ : Nat -> BH} {a0 : Act}
def StepsFC(P:AdM)(l:List AdL)(L:Nat)(C:Nat->Ads->Prop)(R:Nat->Ads->Ads->Prop)(Φ:Nat->BH)(ρ:Aj):Nat->List AdL->Prop
 | _,[]=>True
 | n,o :: r=>(bif Ag8 L n then True else H5 P l C R Φ ρ n o)/\StepsFC P l L C R Φ ρ (n+1) r
theorem CF{L n:Nat}{ρ:Aj}{o:AdL}(h:H5 P l C R Φ ρ n o):bif Ag8 L n then True else H5 P l C R Φ ρ n o:=by
 cases Ag8 L n
 ·exact h
 ·trivial
theorem StepsFC.get{L:Nat}{ρ:Aj}:∀(r:List AdL) (n:Nat),StepsFC P l L C R Φ ρ n r->∀k o,r[k]? =some o->n+k<L->H5 P l C R Φ ρ (n+k) o
 | [],_,_,k,o,h,_=>by simp at h
 | o' :: r,n,hs,0,o,h,hne=>by
  simp only[List.getElem?_cons_zero,AeZ]at h;subst h;have h1:=hs.1;rw[show Ag8 L n=false by rw[<-Bool.not_eq_true];exact fun x=>by have:=AdD x;omega]at h1;exact h1
 | o' :: r,n,hs,k+1,o,h,hne=>by
  rw[Af7]at h;have:=StepsFC.get r (n+1) hs.2 k o h (by omega)
  rwa [show n+1+k=n+(k+1) by omega]at this
end
def Da(l:List AdL)(i:Nat):Option Tmp:=l[i]?.bind (·.dst)
def Wx:List Tmp->Bool
 | []=>true
 | a :: r=> !r.contains a&&Wx r
theorem A7{ρ:Aj}{d:Tmp}{v:Adr}:updO ρ (some d) v=NS ρ d v:=rfl
theorem Es{ρ:Aj}{d:Tmp}{v:Adr}:NS ρ d v d=v:=by simp[NS]
theorem C8{ρ:Aj}{d t:Tmp}{v:Adr}(h:t≠d):NS ρ d v t=ρ t:=by
 have:AgK t d=false:=by rw[<-Bool.not_eq_true,Nat.beq_eq];exact h
 simp[NS,this]
theorem Dv{ρ σ:Aj}{o:AdL}{ops:Array AdL}(hs:∀cs b,o.op ≠ .select cs b)(h:∀t∈o.looksAt ops,σ t=ρ t):execOp (Ab σ) o=execOp (Ab ρ) o:=
 execOp_congr o hs fun x hx=>by
  cases x with
  | tmp t=>exact h t (Agr _ (AgG.2 ⟨.tmp t,by simpa using hx,rfl⟩))
  | _=>rfl
section
variable {P : AdM} {n : Nat} {ρ : Aj} {w : Ads} {Q : Bi} {l : List AdL} {fs : List (Nat × Tmp × Adr)} {cs : List Nat} {I : Ads -> Prop}
theorem I8{a:Act}{o:AdL}{K:Act->Ads->Prop}{Q' :Age->Act->Ads->Prop}(h:Yk P (fun v w' =>K (a.put o.dst v) w') ((execOp a.eval o).run P w)):o.wp P a w K Q' :=by
 unfold AfG AfY
 revert h
 generalize (execOp a.eval o).run P w=r
 intro h
 match r,h with
 | .ok (.value v) w',h=>exact h
 | .ok .skip w',h=>exact h
 | .ok (.enter f args) w',h=>
  refine Aft h ?_;rintro e w'' ⟨v,rfl,hk⟩;exact hk
theorem Nu{a:Act}{o:AdL}{K:Act->Ads->Prop}{Q' :Age->Act->Ads->Prop}{J:List PanicEntry->Ads->Prop}(h:Yp P (fun v w' =>K (a.put o.dst v) w') J ((execOp a.eval o).run P w))(hJ:∀ch w',J ch w' ->Q' (.panic ch) a w'):o.wp P a w K Q' :=by
 unfold AfG AfY
 revert h
 generalize (execOp a.eval o).run P w=r
 intro h
 match r,h with
 | .ok (.value v) w',h=>exact h
 | .ok .skip w',h=>exact h
 | .halt (.panic v) w',h=>exact hJ _ _ h
 | .ok (.enter f args) w',h=>
  refine Aft h ?_;intro e w'' hx
  match e,hx with
  | .returned v,hx=>exact hx
  | .panicked ch,hx=>exact hJ _ _ hx
theorem I9:∀ {l:List Tmp},Wx l=true->l.Nodup
 | [],_=>List.nodup_nil
 | a :: r,h=>by
  unfold Wx at h;rw[AdX]at h;refine AeL.2 ⟨fun hm=> ?_,I9 h.2⟩;have:=h.1;rw[AeM.2 hm]at this;cases this
end
def looksL(l:List AdL)(j:Nat):List Tmp:=match l[j]? with
 | some q=>q.looksAt l.toArray
 | none=> []
def D9(l:List AdL)(j:Nat):Bool:=match l[j]? with
 | some q=>q.guard.isSome
 | none=>true
def DF(l:List AdL)(pf:List Nat)(j:Nat):Bool:=pf.contains j||(match l[j]? with
 | some q=>(match q.op with | .move _ | .assign _=>true | _=>false)
 | none=>false)
def QI(l:List AdL)(m:List Nat)(cs pf fl pre:List Nat)(i:Nat):Bool:=match l[i]? with
 | none=>false
 | some o=>
  (match o.op with | .select .. =>false | _=>true) &&
  ((Afj l.length).all (fun j=> !(m.getD i 0).testBit j||pre.contains j) &&
  (pre.all (fun j=> !cs.contains j||(m.getD i 0).testBit j) &&
  ((!cs.contains i||pre.all fun j=>cs.contains j||(DF l pf j||(fl.contains j||(m.getD i 0).testBit j))) &&
  ((pre.all fun j=>(cs.contains j&& !D9 l j)||((cs.contains i&&(o.guard.isNone&&(m.getD i 0).testBit j))||(match o.dst with | some d=> !(looksL l j).contains d&&Da l j != some d | none=>true))) &&
  ((cs.contains i&&o.guard.isNone)||(match o.dst with | some d=> !(o.looksAt l.toArray).contains d | none=>cs.contains i))))))
def Lc(l:List AdL)(m:List Nat)(cs pf fl:List Nat):List Nat->List Nat->Bool
 | _,[]=>true
 | pre,i :: r=>QI l m cs pf fl pre i&&Lc l m cs pf fl (i :: pre) r
def Fk(l:List AdL)(cs pf fl ord:List Nat):Bool:=Wx ord&&((Afj l.length).all (fun i=>ord.contains i)&&Lc l (AT l []) cs pf fl [] ord)
def QJ(l:List AdL)(fl r:List Nat)(i:Nat):Bool:=fl.all fun j=>r.contains j||((AT l []).getD i 0).testBit j
def L3(l:List AdL)(pf fl:List Nat)(I:Ads->Prop)(w:Ads)(i:Nat)(w' :Ads):Prop:=DF l pf i=true\/(if i∈fl then I w' else w' =w)
def DV(P:AdM)(l:List AdL)(cs pf fl:List Nat)(J:List PanicEntry->Ads->Prop)(K:Aj->Ads->Prop):List Nat->(Ads->Prop)->Aj->Ads->Prop
 | [],_,ρ,w=>K ρ w
 | i :: r,I,ρ,w=>match l[i]? with
  | none=>False
  | some o=>if A9 l o ρ=false then DV P l cs pf fl J K r I (updO ρ o.dst undef) w
   else if i∈cs then Yp P (fun v w' =>∃I' :Ads->Prop,I' w' /\((∀x,I' x->I x)\/QJ l fl r i=true)/\DV P l cs pf fl J K r I' (updO ρ o.dst v) w') J ((execOp (Ab ρ) o).run P w)
   else ∃v,(∀w',L3 l pf fl I w i w' ->Yk P (fun x w'' =>x=v/\w'' =w') ((execOp (Ab ρ) o).run P w'))/\DV P l cs pf fl J K r I (updO ρ o.dst v) w
structure MixAt (l : List AdL) (cs pf fl u : List Nat) (i : Nat) (o : AdL) : Prop where
 sel:∀cs b,o.op ≠ .select cs b
 lin:∀j,j<l.length->((AT l []).getD i 0).testBit j=true->j∈u
 chain:∀j∈u,j∈cs->((AT l []).getD i 0).testBit j=true
 loc:i∈cs->∀j∈u,j∉cs->DF l pf j=true\/j∈fl\/((AT l []).getD i 0).testBit j=true
 sep:∀j∈u,j∉cs\/D9 l j=true->i∉cs\/D9 l i=true\/((AT l []).getD i 0).testBit j=false->∀d,o.dst=some d->d∉looksL l j/\Da l j≠some d
 own:i∉cs\/o.guard.isSome=true->∀d,o.dst=some d->d∉o.looksAt l.toArray
 has:i∉cs->∃d,o.dst=some d
theorem WW{l:List AdL}{cs pf fl u:List Nat}{i:Nat}(h:QI l (AT l []) cs pf fl u i=true):∃o,l[i]? =some o/\MixAt l cs pf fl u i o:=by
 unfold QI at h;cases ho:l[i]? with
 | none=>rw[ho]at h;cases h
 | some o=>
  rw[ho]at h;simp only[AdX]at h;obtain⟨h1,h2,h3,h4,h5,h6⟩:=h;refine⟨o,rfl,⟨fun c b e=> ?_,fun j hj hb=> ?_,fun j hj hc=> ?_,fun hi j hj hc=> ?_,fun j hj hc hx d hd=> ?_,fun hi d hd=> ?_,fun hi=> ?_⟩⟩
  ·rw[e]at h1;cases h1
  ·have:=Ael.1 h2 j (by simpa using hj);rw[hb]at this
   simpa using this
  ·have:=Ael.1 h3 j hj;rw[AeM.2 hc]at this
   simpa using this
  ·rw[AeM.2 hi]at h4;have h4:∀x,x∈u->x∈cs\/DF l pf x=true\/x∈fl\/((AT l [])[i]?.getD 0).testBit x=true:=by simpa using h4
   have:=h4 j hj
   simpa [hc] using this
  ·have:=Ael.1 h5 j hj;rw[hd]at this;have hf:(cs.contains j&& !D9 l j)=false:=by
    rcases hc with hc | hc
    ·have:cs.contains j=false:=by simpa using hc
     rw[this];rfl
    ·rw[hc];simp
   have hf2:(cs.contains i&&(o.guard.isNone&&((AT l []).getD i 0).testBit j))=false:=by
    rcases hx with hx | hx | hx
    ·have:cs.contains i=false:=by simpa using hx
     rw[this];rfl
    ·unfold D9 at hx;rw[ho]at hx;cases hg:o.guard with
     | none=>simp only[hg]at hx;cases hx
     | some g=>simp
    ·rw[hx];simp
   rw[hf,hf2]at this
   simpa using this
  ·have hf:(cs.contains i&&o.guard.isNone)=false:=by
    rcases hi with hi | hi
    ·have:cs.contains i=false:=by simpa using hi
     rw[this];rfl
    ·cases hg:o.guard with
     | none=>rw[hg]at hi;cases hi
     | some g=>simp
   rw[hf,hd]at h6
   simpa using h6
  ·have hf:cs.contains i=false:=by simpa using hi
   rw[hf]at h6;cases hd:o.dst with
   | none=>rw[hd]at h6;simp at h6
   | some d=>exact⟨d,rfl⟩
theorem Mm{l:List AdL}{m cs pf fl:List Nat}:∀ {pre:List Nat} (u:List Nat) {i:Nat} {v:List Nat},Lc l m cs pf fl pre (u++i :: v)=true->QI l m cs pf fl (u.reverse++pre) i=true
 | pre,[],i,v,h=>by
  unfold Lc at h;rw[Ad9,AdX]at h;exact h.1
 | pre,x :: u,i,v,h=>by
  rw[Ad1]at h;unfold Lc at h;rw[AdX]at h;have:=Mm u h.2
  simpa using this
theorem MixAt.perm{l:List AdL}{cs pf fl u v:List Nat}{i:Nat}{o:AdL}(e:∀x,x∈u↔x∈v)(h:MixAt l cs pf fl u i o):MixAt l cs pf fl v i o:=
 ⟨h.sel,fun j a b=>(e j).1 (h.lin j a b),fun j a=>h.chain j ((e j).2 a),fun a j b=>h.loc a j ((e j).2 b),fun j a=>h.sep j ((e j).2 a),h.own,h.has⟩
theorem Et{l:List AdL}{cs pf fl u v:List Nat}{i:Nat}(h:Fk l cs pf fl (u++i :: v)=true):∃o,l[i]? =some o/\MixAt l cs pf fl u i o:=by
 unfold Fk at h;rw[AdX,AdX]at h;obtain⟨o,ho,k⟩:=WW (Mm u h.2.2);exact⟨o,ho,k.perm (by simp)⟩
theorem EW{l:List AdL}{o:AdL}{ρ σ:Aj}(h:∀t∈o.looksAt l.toArray,σ t=ρ t):A9 l o σ=A9 l o ρ:=by
 unfold A9;cases hg:o.guard with
 | none=>rfl
 | some g=>
  obtain⟨g,want⟩:=g;simp only;cases hd:(l[g]?).bind (·.dst)with
  | none=>rfl
  | some t=>
   simp only;rw[h t (by
    unfold Oper.looksAt;refine AeY _ ?_;rw[hg];simp[hd])]
theorem NY{a b:List Nat}{x:Nat}(h:(a++b).Nodup)(ha:x∈a)(hb:x∈b):False:=(AfD.1 h).2.2 x ha x hb rfl
theorem Px{a b c d:List Nat}{x:Nat}(h:(a++x :: b).Nodup)(e:a++x :: b=c++x :: d):a=c:=by
 induction a generalizing c with
 | nil=>
  cases c with
  | nil=>rfl
  | cons y c=>
   simp only[Ad9,Ad1,List.cons.injEq]at e;obtain⟨rfl,e⟩:=e;rw[Ad9]at h;exact absurd (by rw[e];simp) (AeL.1 h).1
 | cons y a ih=>
  cases c with
  | nil=>
   simp only[Ad9,Ad1,List.cons.injEq]at e;obtain⟨rfl,e⟩:=e;rw[Ad1]at h;exact absurd (by simp) (AeL.1 h).1
  | cons z c=>
   simp only[Ad1,List.cons.injEq]at e;obtain⟨rfl,e⟩:=e;rw[Ad1]at h;rw[ih (AeL.1 h).2 e]
section
variable {P : AdM} {n : Nat} {ρ : Aj} {w : Ads} {Q : Bi} {l : List AdL} {cs pf fl ord : List Nat} {I : Ads -> Prop} {J : List PanicEntry -> Ads -> Prop} {K : Aj -> Ads -> Prop}
def Pend(P:AdM)(l:List AdL)(cs pf fl:List Nat)(I:Ads->Prop)(ρ:Aj)(w:Ads)(i:Nat):Prop:=
 ∃o,l[i]? =some o/\(i∉cs\/D9 l i=true)/\(∀d,o.dst=some d->d∉o.looksAt l.toArray)/\(∀cs b,o.op ≠ .select cs b) /\
  (A9 l o ρ=false/\(∀d,o.dst=some d->ρ d=undef) \/
   A9 l o ρ=true/\i∉cs/\∃d,o.dst=some d/\∀w',L3 l pf fl I w i w' ->Yk P (fun x w'' =>x=ρ d/\w'' =w') ((execOp (Ab ρ) o).run P w'))
theorem Pend.upd{ρ' :Aj}{i:Nat}(h:Pend P l cs pf fl I ρ w i)(hl:∀t∈looksL l i,ρ' t=ρ t)(hd:∀t,Da l i=some t->ρ' t=ρ t):Pend P l cs pf fl I ρ' w i:=by
 obtain⟨o,ho,h1,h2,h3,h4⟩:=h;have hl' :∀t∈o.looksAt l.toArray,ρ' t=ρ t:=fun t ht=>hl t (by unfold looksL;rw[ho];exact ht);have hd' :∀t,o.dst=some t->ρ' t=ρ t:=fun t ht=>hd t (by unfold Da;rw[ho];exact ht);refine⟨o,ho,h1,h2,h3,?_⟩;rw[EW hl'];rcases h4 with ⟨a,b⟩ | ⟨a,b,d,hd0,c⟩
 ·exact .inl ⟨a,fun d hd0=>(hd' d hd0).trans (b d hd0)⟩
 ·refine .inr ⟨a,b,d,hd0,?_⟩;rw[hd' d hd0,Dv h3 hl'];exact c
structure MInv (P : AdM) (l : List AdL) (cs pf fl ord : List Nat) (n : Nat) (J : List PanicEntry -> Ads -> Prop) (K : Aj -> Ads -> Prop) (u r : List Nat) (I : Ads -> Prop) (ρ : Aj) (listed : Array Bool) (a : Act) (w : Ads) : Prop where
 size:listed.size=l.length
 closed:∀i o,l[i]? =some o->On listed i->∀e∈o.after,Aeu .any e=true->On listed e.on
 tmps:a.tmps.size=n
 defers:a.defers= []
 split:ord=u++r
 rest:∀i∈r,¬On listed i
 pend:∀i∈u,¬On listed i->Pend P l cs pf fl I ρ w i
 agree:∀t,(∀i∈u,¬On listed i->Da l i≠some t)->a.tmps.getD t undef=ρ t
 holds:I w
 run:DV P l cs pf fl J K r I ρ w
theorem MInv.place(hb:Fk l cs pf fl ord=true){listed:Array Bool}{a:Act}:∀(r u:List Nat) (ρ:Aj),MInv P l cs pf fl ord n J K u r I ρ listed a w ->
  ∃u' r' ρ',MInv P l cs pf fl ord n J K u' r' I ρ' listed a w/\(r' = []\/∃c q o,r' =c :: q/\c∈cs/\l[c]? =some o/\A9 l o ρ' =true)
 | [],u,ρ,h=>⟨u,[],ρ,h, .inl rfl⟩
 | i :: r,u,ρ,h=>by
  obtain⟨o,ho,hm⟩:=Et (h.split▸hb);have hrun:=h.run;unfold DV at hrun;rw[ho]at hrun;simp only at hrun;have hno:¬On listed i:=h.rest i (by simp);have next:∀(v:Adr),(i∉cs\/D9 l i=true)->(∀d,o.dst=some d->d∉o.looksAt l.toArray)->Pend P l cs pf fl I (updO ρ o.dst v) w i->DV P l cs pf fl J K r I (updO ρ o.dst v) w->MInv P l cs pf fl ord n J K (u++ [i]) r I (updO ρ o.dst v) listed a w:=fun v hg hown hp hr=>by
   have hne:∀t,o.dst≠some t->updO ρ o.dst v t=ρ t:=fun t ht=>by
    cases hd:o.dst with
    | none=>rfl
    | some d=>rw[A7,C8 (fun e=>ht (by rw[hd,e]))]
   refine⟨h.size,h.closed,h.tmps,h.defers,by rw[h.split];simp,fun j hj=>h.rest j (by simp[hj]),fun j hj hnj=> ?_,fun t ht=> ?_,h.holds,hr⟩
   ·rcases Aed.1 hj with hj | hj
    ·have hpj:=h.pend j hj hnj;obtain⟨oj,hoj,hcj,-⟩:=hpj;have hg' :i∉cs\/D9 l i=true\/((AT l []).getD i 0).testBit j=false:=hg.elim .inl fun x=> .inr (.inl x);refine(h.pend j hj hnj).upd (fun t ht=>hne t fun e=>(hm.sep j hj hcj hg' t e).1 ht) fun t ht=>hne t fun e=>(hm.sep j hj hcj hg' t e).2 ht
    ·rw[Aeb.1 hj];exact hp
   ·have h1:=h.agree t fun j hj=>ht j (by simp[hj]);rw[h1,hne t fun e=>ht i (by simp) hno (by unfold Da;rw[ho];exact e)]
  by_cases hw:A9 l o ρ=false
  ·rw[if_pos hw]at hrun;have hgs:o.guard.isSome=true:=by
    cases hg:o.guard with
    | none=>unfold A9 at hw;rw[hg]at hw;cases hw
    | some g=>rfl
   have hgb:D9 l i=true:=by unfold D9;rw[ho];exact hgs
   have hown:=hm.own (.inr hgs);refine MInv.place hb r (u++ [i]) _ (next undef (.inr hgb) hown ⟨o,ho, .inr hgb,hown,hm.sel, .inl ⟨?_,fun d hd=>by rw[hd,A7,Es]⟩⟩ hrun);rw[<-hw];refine EW fun t ht=> ?_;cases hd:o.dst with
   | none=>rfl
   | some d=>rw[A7,C8 (fun e=>hown d hd (by rw[<-e];exact ht))]
  ·rw[if_neg hw]at hrun;have hwt:A9 l o ρ=true:=by simpa using hw
   by_cases hc:i∈cs
   ·exact⟨u,i :: r,ρ,h, .inr ⟨i,r,o,rfl,hc,ho,hwt⟩⟩
   ·rw[if_neg hc]at hrun;obtain⟨v,hv,hrun⟩:=hrun;have hown:=hm.own (.inl hc);obtain⟨d,hd⟩:=hm.has hc;have hag:∀t∈o.looksAt l.toArray,updO ρ o.dst v t=ρ t:=fun t ht=>by rw[hd,A7,C8 (fun e=>hown d hd (by rw[<-e];exact ht))]
    refine MInv.place hb r (u++ [i]) _ (next v (.inl hc) hown ⟨o,ho, .inl hc,hown,hm.sel, .inr ⟨by rw[EW hag];exact hwt,hc,d,hd,?_⟩⟩ hrun);rw[Dv hm.sel hag];intro w' hw';rw[show updO ρ o.dst v d=v by rw[hd,A7,Es]];exact hv w' hw'
theorem P9(hg:DD l n=true)(hb:Fk l cs pf fl ord=true):
  ∀(fuel:Nat) (listed:Array Bool) (a:Act) (w:Ads) (u r:List Nat) (I:Ads->Prop) (ρ:Aj),(listed.toList.filter (!·)).length=fuel->MInv P l cs pf fl ord n (fun ch w' =>∀ρ',Q (.panic ch) ρ' w') (fun ρ w=>Q .normal ρ w) u r I ρ listed a w->(r= []\/∃c q o,r=c :: q/\c∈cs/\l[c]? =some o/\A9 l o ρ=true) ->
   wpAny P .any l.toArray (fun e a' w' =>∃ρ',Fits n ρ' a' /\Q e ρ' w') fuel listed a w:=by
 have g:=Hr hg;have hall:∀i,i<l.length->i∈ord:=fun i hi=>by
  unfold Fk at hb;rw[AdX,AdX]at hb
  simpa using Ael.1 hb.2.1 i (by simpa using hi)
 have hnd:ord.Nodup:=by
  unfold Fk at hb;rw[AdX]at hb;exact I9 hb.1
 have hlt:∀(i:Nat) (o:AdL),l[i]? =some o->i<l.length:=fun i o ho=>(AdR.1 ho).1
 -- all are done
 have fin:∀(listed:Array Bool) (a:Act) (w:Ads) (u r:List Nat) (I:Ads->Prop) (ρ:Aj),MInv P l cs pf fl ord n (fun ch w' =>∀ρ',Q (.panic ch) ρ' w') (fun ρ w=>Q .normal ρ w) u r I ρ listed a w->(r= []\/∃c q o,r=c :: q/\c∈cs/\l[c]? =some o/\A9 l o ρ=true)->(∀i,i<l.length->On listed i)->∃ρ',Fits n ρ' a/\Q .normal ρ' w:=fun listed a w u r I ρ h hr hon=>by
  rcases hr with rfl | ⟨c,q,o,rfl,-,ho,-⟩
  ·refine⟨ρ,⟨h.tmps,h.defers,fun t=>h.agree t fun i hi hni=> ?_⟩,h.run⟩;obtain⟨o,ho,-⟩:=h.pend i hi hni;exact absurd (hon i (hlt i o ho)) hni
  ·exact absurd (hon c (hlt c o ho)) (h.rest c (by simp))
 intro fuel
 induction fuel with
 | zero=>
  intro listed a w u r I ρ hfu h hr;have full:∀i,i<l.length->On listed i:=fun i hi=>by
   have:=Gq _ hfu i (by rw[AeN,h.size];omega);unfold On;simp at this;simp[this]
  refine⟨?_,fin listed a w u r I ρ h hr full⟩;cases hrd:AeV .any l.toArray listed with
  | nil=>rfl
  | cons x xs=>
   exfalso;have hmem:x∈AeV .any l.toArray listed:=by rw[hrd];simp
   obtain⟨h1,o,ho,_⟩:=mem_ready.1 hmem;have hx:x<l.length:=by simpa using (Aef.1 ho).1
   have h2:=full x hx;have hx' :x<listed.size:=h2.lt;unfold On at h2;simp[hx']at h1 h2;rw[h1]at h2;cases h2
 | succ fuel ih=>
  intro listed a w u r I ρ hfu h hr;refine⟨fun hrd=>fin listed a w u r I ρ h hr fun i=> ?_,fun i hi=> ?_⟩
  ·induction i using Agb with
   | _ i ih2=>
    intro hi;refine Classical.byContradiction fun hno=> ?_;have ho:l[i]? =some l[i]:=AdE hi;have:i∈AeV .any l.toArray listed:=by
     refine mem_ready.2 ⟨?_,l[i],by rw[Aeh];exact ho,fun e he hb=> ?_⟩
     ·have hi' :i<listed.size:=by rw[h.size];exact hi
      unfold On at hno;simp[hi']at hno ⊢;exact hno
     ·have hlt:=g.back i _ ho e he hb;exact ih2 e.on hlt (by omega)
    rw[hrd]at this;cases this
  ·obtain⟨h1,o,ho,hall0⟩:=mem_ready.1 hi;have ho' :l[i]? =some o:=by simpa using ho
   have hilt:i<l.length:=hlt i o ho';have hil:i<listed.size:=by rw[h.size];exact hilt
   have hno:¬On listed i:=by
    unfold On;simp[hil]at h1 ⊢;exact h1
   have hball:∀e∈o.after,Aeu .any e=true->On listed e.on:=fun e he hb=>hall0 e he hb;have hI:Inv l (fun _=> []) (fun _ _=>True) (fun _ _=>True) (fun _ _ _=>True) a listed a w:=
    ⟨h.size,h.closed,rfl,rfl,fun _ _ _=>trivial,trivial,fun _ _=>rfl,fun _ _ _ _ _ _ _ _=>trivial⟩
   have hmr:∀k,((AT l []).getD i 0).testBit k=true->On listed k:=fun k hk=>hI.maskReady ho' hball hk;have hcnt:((listed.setIfInBounds i true).toList.filter (!·)).length=fuel:=by
    rw[AfQ];have:=FX listed.toList i (by
     simp[hil]at h1;simp[hil,h1])
    omega
   have hcl:∀j oj,l[j]? =some oj->On (listed.setIfInBounds i true) j->∀e∈oj.after,Aeu .any e=true->On (listed.setIfInBounds i true) e.on:=fun j oj hj hon e he hb=>by
    rcases(AR hil).1 hon with rfl | hon
    ·obtain rfl:o=oj:=by rw[ho']at hj;exact AdY hj
     exact(AR hil).2 (.inr (hball e he hb))
    ·exact(AR hil).2 (.inr (h.closed j oj hj hon e he hb))
   have hF:Fits n (fun t=>a.tmps.getD t undef) a:=⟨h.tmps,h.defers,fun t=>rfl⟩;have hroom:∀t,o.dst=some t->t<n:=fun t ht=>g.room i o t ho' ht;have hio:i∈ord:=hall i hilt;rw[h.split]at hio;have hun:∀j,¬On (listed.setIfInBounds i true) j->¬On listed j/\j≠i:=fun j hj=>⟨fun x=>hj ((AR hil).2 (.inr x)),fun x=>hj ((AR hil).2 (.inl x))⟩
   -- where it stands in the order
   have hwhere:∃u1 b,ord=u1++i :: b/\(i∈r->u1=u/\r=i :: b)/\(i∈u->∀j∈u,j∈u1\/j=i\/j∈b):=by
    by_cases hir:i∈r
    ·rcases hr with rfl | ⟨c,q,oc,rfl,hc,hoc,-⟩
     ·cases hir
     ·have:i=c:=by
       rcases Ad5.1 hir with x | x
       ·exact x
       ·exfalso;obtain⟨q1,q2,hq⟩:=Afe x;have hb' :=hb;rw[h.split,hq,show u++c :: (q1++i :: q2)=(u++c :: q1)++i :: q2 by simp]at hb';obtain⟨o2,f,hm⟩:=Et hb';exact h.rest c (by simp) (hmr c (hm.chain c (by simp) hc))
      subst this;exact⟨u,q,h.split,fun _=>⟨rfl,rfl⟩,fun _ j hj=> .inl hj⟩
    ·have hiu:i∈u:=(Aed.1 hio).elim id fun x=>absurd x hir;obtain⟨u1,s,hu⟩:=Afe hiu;exact⟨u1,s++r,by rw[h.split,hu];simp,fun x=>absurd x hir,fun _ j hj=>by rw[hu]at hj;simp at hj ⊢;rcases hj with x | x | x <;> simp[x]⟩
   obtain⟨u1,b,hord,hin,hiu1⟩:=hwhere;obtain⟨o2,f,hm⟩:=Et (hord▸hb);obtain rfl:o=o2:=by rw[ho']at f;exact AdY f
   -- what it looks at is as in the order that is walked
   have hlook:∀t∈o.looksAt l.toArray,a.tmps.getD t undef=ρ t:=fun t ht=>h.agree t fun q hq hnq e=>by
    obtain⟨oq,hoq,hcq,hownq,-⟩:=h.pend q hq hnq;have hdq:oq.dst=some t:=by unfold Da at e;rw[hoq]at e;exact e
    rcases Nat.lt_trichotomy q i with hqi | hqi | hqi
    ·exact hnq (hmr q (g.tied i o q oq t ho' hoq hqi (.inl ⟨hdq,AeY _ ht⟩)))
    ·subst hqi;rw[ho']at hoq;cases hoq;exact hownq t hdq ht
    ·-- it is bound ahead of q, which stands behind it
     have hmq:=g.tied q oq i o t hoq ho' hqi (.inr ⟨hdq,AeY _ ht⟩);have hqo:q∈ord:=by rw[h.split];simp[hq]
     obtain⟨p1,p2,hp⟩:=Afe hqo;obtain⟨oq2,hoq2,hmq2⟩:=Et (hp▸hb);rw[hoq]at hoq2;cases hoq2;have hip:=hmq2.lin i hilt hmq;by_cases hic:i∈cs/\D9 l i=false
     ·-- a chain's operation that has no guard and is still to come stands behind all that is walked
      have hir:i∈r:=(Aed.1 hio).elim (fun x=>by
       obtain⟨oi,hoi,hci,-⟩:=h.pend i x hno;rcases hci with y | y
       ·exact absurd hic.1 y
       ·rw[hic.2]at y;cases y) id
      obtain⟨z,-⟩:=hin hir;have hdis:i∉u:=fun x=>by
       have:=h.split▸hnd;exact NY this x hir
      -- p1 lies within u
      obtain⟨s1,s2,hs⟩:=Afe hq;have m:p1=s1:=by
       have hx:p1++q :: p2=s1++q :: (s2++r):=by rw[<-hp,h.split,hs];simp
       exact Px (hp▸hnd) hx
      rw[m]at hip;exact hdis (by rw[hs];simp[hip])
     ·have:=(hmq2.sep i hip (by
       by_cases hx:i∈cs
       ·right;cases hy:D9 l i with
        | true=>rfl
        | false=>exact absurd ⟨hx,hy⟩ hic
       ·exact .inl hx) (hcq.elim .inl fun x=> .inr (.inl x)) t hdq).1
      exact this (by unfold looksL;rw[ho'];exact ht)
   have hwa:AeA o (yielded l.toArray a.tmps)=A9 l o ρ:=by
    rw[<-Mk a o,EW hlook]
   unfold wpOp;simp only[Aeh,ho'];by_cases hir:i∈r
   ·-- the chain's next operation
    obtain⟨rfl,m⟩:=hin hir;rcases hr with rfl | ⟨c,q,oc,rfl,hc,hoc,hwc⟩
    ·cases hir
    obtain⟨rfl,rfl⟩:c=i/\q=b:=by simpa using m
    rw[ho']at hoc;cases hoc;rw[hwa,hwc,if_pos rfl];have hrun:=h.run;unfold DV at hrun;rw[ho']at hrun;simp only at hrun;rw[if_neg (by rw[hwc];simp),if_pos hc]at hrun;refine .inl (Nu (J:=fun ch w' =>∀ρ',Q (.panic ch) ρ' w') ?_ fun ch w' h=>⟨_,hF,h _⟩);rw[hF.eval,Dv (ρ:=ρ) hm.sel hlook];refine Abr hrun ?_ fun _ _ h=>h;rintro v w' ⟨I',hI',hII,hrun'⟩;have hne:∀t,o.dst≠some t->updO ρ o.dst v t=ρ t:=fun t ht=>by
     cases hd:o.dst with
     | none=>rfl
     | some d=>rw[A7,C8 (fun e=>ht (by rw[hd,e]))]
    have h0:MInv P l cs pf fl ord n (fun ch w' =>∀ρ',Q (.panic ch) ρ' w') (fun ρ w=>Q .normal ρ w) (u1++ [c]) q I' (updO ρ o.dst v) (listed.setIfInBounds c true) (a.put o.dst v) w' :=by
     refine⟨by simpa using h.size,hcl,(hF.put o.dst hroom _).size,(hF.put o.dst hroom _).defers,by rw[hord];simp,fun j hj hx=> ?_,fun j hj hnj=> ?_,fun t ht=> ?_,hI',hrun'⟩
     ·rcases(AR hil).1 hx with rfl | hx
      ·have:=hord▸hnd;exact(AeL.1 (AfD.1 this).2.1).1 hj
      ·exact h.rest j (by simp[hj]) hx
     ·obtain⟨hnj,hjc⟩:=hun j hnj;have hju:j∈u1:=(Aed.1 hj).elim id fun x=>absurd (Aeb.1 x) hjc;obtain⟨oj,hoj,hcj,hownj,hselj,hpj⟩:=h.pend j hju hnj;have hup:Pend P l cs pf fl I' ρ w' j:=by
       refine⟨oj,hoj,hcj,hownj,hselj,?_⟩;rcases hpj with x | ⟨x1,x2,d,x3,x4⟩
       ·exact .inl x
       ·refine .inr ⟨x1,x2,d,x3,fun w2 hw2=> ?_⟩;rcases hm.loc hc j hju x2 with hjp | hjf | hjm
        ·exact x4 w2 (.inl hjp)
        ·refine x4 w2 (hw2.elim .inl fun hw2=> .inr ?_);rw[if_pos hjf]at hw2 ⊢;rcases hII with hII | hclr
         ·exact hII _ hw2
         ·exfalso;have:=Ael.1 hclr j hjf;rw[AeH]at this;rcases this with y | y
          ·have hz:=hord▸hnd;have hy:j∈c :: q:=by simp at y;simp[y]
           exact NY hz hju hy
          ·exact hnj (hmr j y)
        ·exact absurd (hmr j hjm) hnj
      have hmj:((AT l []).getD c 0).testBit j=false:=by
       cases hx:((AT l []).getD c 0).testBit j with
       | false=>rfl
       | true=>exact absurd (hmr j hx) hnj
      exact hup.upd (fun t ht=>hne t fun e=>(hm.sep j hju hcj (.inr (.inr hmj)) t e).1 ht) fun t ht=>hne t fun e=>(hm.sep j hju hcj (.inr (.inr hmj)) t e).2 ht
     ·rw[(hF.put o.dst hroom _).get t];have hag:(∀j∈u1,¬On listed j->Da l j≠some t)->a.tmps.getD t undef=ρ t:=fun hx=>h.agree t hx;have hag' :=hag fun j hj hnj=>ht j (by simp[hj]) fun x=>by
       rcases(AR hil).1 x with rfl | x
       ·have hz:=hord▸hnd;exact NY hz hj (by simp)
       ·exact hnj x
      cases hd:o.dst with
      | none=>exact hag'
      | some d=>
       rw[A7,A7];by_cases e:t=d
       ·subst e;rw[Es,Es]
       ·rw[C8 e,C8 e];exact hag'
    obtain⟨u',r',ρ',hp,hr'⟩:=h0.place hb;exact ih _ _ _ u' r' I' ρ' hcnt hp hr'
   ·-- one that was walked
    have hiu:i∈u:=(Aed.1 hio).elim id fun x=>absurd x hir;obtain⟨o3,p,hci,hown,hsel,hp⟩:=h.pend i hiu hno;rw[ho']at p;cases p;have next:∀v,(∀d,o.dst=some d->v=ρ d)->wpAny P .any l.toArray (fun e a' w' =>∃ρ',Fits n ρ' a' /\Q e ρ' w') fuel (listed.setIfInBounds i true) (a.put o.dst v) w:=fun v hv=>by
     refine ih _ _ _ u r I ρ hcnt ⟨by simpa using h.size,hcl,(hF.put o.dst hroom _).size,(hF.put o.dst hroom _).defers,h.split,fun j hj hx=> ?_,fun j hj hnj=>h.pend j hj (hun j hnj).1,fun t ht=> ?_,h.holds,h.run⟩ hr
     ·rcases(AR hil).1 hx with rfl | hx
      ·exact hir hj
      ·exact h.rest j hj hx
     ·rw[(hF.put o.dst hroom _).get t];by_cases e:o.dst=some t
      ·rw[e,A7,Es];exact hv t e
      ·have hx:updO (fun t=>a.tmps.getD t undef) o.dst v t=a.tmps.getD t undef:=by
        cases hd:o.dst with
        | none=>rfl
        | some d=>rw[A7,C8 (fun x=>e (by rw[hd,x]))]
       rw[hx];refine h.agree t fun j hj hnj=> ?_;by_cases hji:j=i
       ·subst hji;unfold Da;rw[ho'];exact e
       ·exact ht j hj fun x=>by
         rcases(AR hil).1 x with x | x
         ·exact hji x
         ·exact hnj x
    rcases hp with ⟨x1,x2⟩ | ⟨x1,x2,d,x3,x4⟩
    ·rw[hwa,x1,if_neg (by simp)];exact next undef fun d hd=>(x2 d hd).symm
    ·rw[hwa,x1,if_pos rfl];refine .inl (I8 ?_);rw[hF.eval,Dv (ρ:=ρ) hsel hlook];refine Ac9 (x4 w (.inr (by split <;> first | exact h.holds | rfl))) ?_;rintro v w' ⟨rfl,rfl⟩;exact next _ fun d' hd' =>by rw[x3]at hd';cases hd';rfl
end
def Never{α:Type}(x:Sem α):Prop:=∀(P:AdM) (w:Ads) (a:α) (w' :Ads),x.run P w ≠ .ok a w'
def Steady{α:Type}(x:Sem α):Prop:=∀(P:AdM) (w:Ads) (a:α) (w' :Ads),x.run P w = .ok a w' ->w' =w/\∀w2,x.run P w2 = .ok a w2
theorem Never.steady{α:Type}{x:Sem α}(h:Never x):Steady x:=fun P w a w' e=>absurd e (h P w a w')
theorem Steady.pure{α:Type}(a:α):Steady (Pure.pure a:Sem α):=fun P w b w' h=>by
 simp only[AdF,Result.ok.injEq]at h ⊢;exact⟨h.2.symm,fun _=>⟨h.1,trivial⟩⟩
abbrev Ade:=@Steady.pure
theorem Steady.bind{α β:Type}{x:Sem α}{f:α->Sem β}(hx:Steady x)(hf:∀a,Steady (f a)):Steady (x >>= f):=fun P w b w' h=>by
 rw[AdB]at h;cases hr:x.run P w with
 | ok a w1=>
  rw[hr,AdA]at h;obtain⟨rfl,h1⟩:=hx P w a w1 hr;obtain⟨rfl,h2⟩:=hf a P w1 b w' h;exact⟨rfl,fun w2=>by rw[AdB,h1 w2,AdA];exact h2 w2⟩
 | halt e w1=>rw[hr]at h;cases h
abbrev AcZ:=@Steady.bind
theorem Never.bind{α β:Type}{x:Sem α}{f:α->Sem β}(hf:∀a,Never (f a)):Never (x >>= f):=fun P w b w' h=>by
 rw[AdB]at h;cases hr:x.run P w with
 | ok a w1=>rw[hr,AdA]at h;exact hf a P w1 b w' h
 | halt e w1=>rw[hr]at h;cases h
abbrev Adf:=@Never.bind
theorem Never.halt{α:Type}(e:Halt):Never (Sem.halt e:Sem α):=fun P w a w' h=>by cases h
abbrev AcT:=@Never.halt
theorem Dj{α:Type}(e:RuntimeError):Never (runtimePanic e:Sem α):=Adf fun p=>by
 cases e <;> first | exact AcT _ | exact Adf fun _=>Adf fun _=>AcT _
theorem Steady.program:Steady program:=fun P w a w' h=>by
 have h:AhQ P w=AhQ a w' :=h;cases h;exact⟨rfl,fun _=>rfl⟩
theorem Steady.underlying(t:Ady):Steady (underlying t):=AcZ .program fun p=>by
 cases p.underlying t with
 | none=>exact(AcT _).steady
 | some d=>exact .pure d
abbrev AcY:=@Steady.underlying
theorem Steady.sizeOf(t:Ady):Steady (sizeOf t):=AcZ (AcZ .program fun p=>by
 cases p.info? t with
 | none=>exact(AcT _).steady
 | some d=>exact .pure d) fun _=> .pure _
abbrev Ac7:=@Steady.sizeOf
theorem Steady.asIntOf(v:Adr):Steady (asIntOf v):=by
 unfold Go.asIntOf;split
 ·exact .pure _
 ·exact(AcT _).steady
 ·exact(AcT _).steady
abbrev Ac4:=@Steady.asIntOf
theorem Steady.sureAddr(v:Adr):Steady (Af0 v):=by
 unfold Af0;split
 ·exact .pure _
 ·exact(AcT _).steady
abbrev Ac2:=@Steady.sureAddr
theorem Steady.asAddr(v:Adr):Steady (asAddr v):=by
 unfold Go.asAddr;split
 all_goals first | exact .pure _ | exact(AcT _).steady | exact(Dj _).steady
abbrev Ac8:=@Steady.asAddr
theorem Eu{α:Type}(k:AeI)(x y:Int)(c:BoundsCode):Never (boundsPanic k x y c:Sem α):=by
 unfold boundsPanic
 dsimp only
 split
 ·exact Adf fun s=>Dj _
 ·exact Adf fun s=>Dj _
theorem Steady.indexAt(t:Ady)(x i:Adr):Steady (Instr.indexAt t x i):=by
 unfold Instr.indexAt
 repeat' first
  | exact Ade _
  | exact(AcT _).steady
  | exact AcY _
  | exact Ac7 _
  | exact Ac4 _
  | exact Ac2 _
  | exact Ac8 _
  | exact(Eu _ _ _ _).steady
  | exact(Dj _).steady
  | refine AcZ ?_ fun _=> ?_
  | split
  | dsimp only
theorem Steady.sliceBound(v:Adr)(n:Nat)(c:BoundsCode):Steady (Instr.sliceBound v n c):=by
 unfold Instr.sliceBound
 repeat' first
  | exact Ade _
  | exact(AcT _).steady
  | exact AcY _
  | exact Ac7 _
  | exact Ac4 _
  | exact Ac2 _
  | exact Ac8 _
  | exact(Eu _ _ _ _).steady
  | exact(Dj _).steady
  | refine AcZ ?_ fun _=> ?_
  | split
  | dsimp only
theorem Steady.sliceBounds(b:Bool)(n c:Nat)(l h m:Option Adr):Steady (Instr.sliceBounds b n c l h m):=by
 unfold Instr.sliceBounds
 repeat' first
  | exact Ade _
  | exact(AcT _).steady
  | exact AcY _
  | exact Ac7 _
  | exact Ac4 _
  | exact Ac2 _
  | exact Ac8 _
  | exact(Eu _ _ _ _).steady
  | exact(Dj _).steady
  | exact Steady.sliceBound _ _ _
  | refine AcZ ?_ fun _=> ?_
  | split
  | dsimp only
abbrev Adl:=@Steady.sliceBounds
theorem Steady.slice(t:Ady)(x:Adr)(l h m:Option Adr):Steady (Instr.slice t x l h m):=by
 unfold Instr.slice
 repeat' first
  | exact Ade _
  | exact(AcT _).steady
  | exact AcY _
  | exact Ac7 _
  | exact Ac4 _
  | exact Ac2 _
  | exact Ac8 _
  | exact(Eu _ _ _ _).steady
  | exact(Dj _).steady
  | exact Adl _ _ _ _ _ _
  | refine AcZ ?_ fun _=> ?_
  | split
  | dsimp only
theorem Steady.sliceAt(t:Ady)(x:Adr)(l h m:Option Adr):Steady (AfR t x l h m):=by
 unfold AfR
 repeat' first
  | exact Ade _
  | exact(AcT _).steady
  | exact AcY _
  | exact Ac7 _
  | exact Ac4 _
  | exact Ac2 _
  | exact Ac8 _
  | exact(Eu _ _ _ _).steady
  | exact(Dj _).steady
  | exact Adl _ _ _ _ _ _
  | exact Steady.slice _ _ _ _ _
  | refine AcZ ?_ fun _=> ?_
  | split
  | dsimp only
theorem Mn{P:AdM}{K:Adr->Ads->Prop}{s:Sem Adr}{w:Ads}(hs:Steady s)(h:Yk P K ((do pure (Next.value (<-s)):Sem Next).run P w)):
  ∃v,K v w/\∀w',Yk P (fun x w'' =>x=v/\w'' =w') ((do pure (Next.value (<-s)):Sem Next).run P w'):=by
 rw[AdB]at h;cases hr:s.run P w with
 | ok a w1=>
  rw[hr,AdA,AdF]at h;obtain⟨rfl,h1⟩:=hs P w a w1 hr;exact⟨a,h,fun w' =>by rw[AdB,h1 w',AdA,AdF];exact⟨rfl,rfl⟩⟩
 | halt e w1=>rw[hr]at h;exact h.elim
end Go.Proofs.YtbbbblinjomajaaGreatDoor
