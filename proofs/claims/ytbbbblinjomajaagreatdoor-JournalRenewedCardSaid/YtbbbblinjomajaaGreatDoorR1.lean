/- Part 1 of what stands behind these statements: laws and walks of the functions that are reached. Conditions: those that each theorem names. -/
import Derived.WalkKit
import Derived.WalkLawsBesides
import Derived.WalkSpells
import Derived.Deep.AppendSrc
import Derived.Lib.Hide
import Derived.Lib.VarintMem
import Derived.ProofKit
import Derived.OpenShut
import Derived.ShutString
import Derived.JoinedCond
import Derived.Deep.DeepHandedRow
import Derived.Lay
import Derived.Stop.LaidErr
import Derived.Orders
import Derived.Below
import Derived.Laws.IdiomStrings
import Derived.Deep.MidRow
import Derived.Scope
import Derived.Laws.Rows
import Derived.Laws.StructEq
import Derived.Lib.EndianBits
import Derived.Lib.Walk
import Derived.Deep.Slices
import Derived.Recover
import Derived.Laws.RangeAny
import Derived.Lib.Varint
import Derived.DeepKeys4
import Derived.MapKept
import Derived.WideKeyEntry
import Derived.Lib.Bytealg
import Derived.Laws.Externs
import Derived.Lib.AppendZerosOnto
import Derived.Lib.Overlaps
import Derived.Lib.ConvBytes
import Derived.Lib.AtoiErrMem
import Derived.Sort.Walk0
import Derived.Maps.Own
import Derived.Maps.OwnSet
import Derived.Maps.Range
import Derived.Sort.KeysCollected
import Derived.Laws.IdiomRangeMap
import Derived.Shelf.SlMaps.Clone
import Derived.Shelf.SlIter.Nil
import Derived.Shelf.SortM.Plain
import Derived.Shelf.SortM.SortNone
import Derived.Laws.Small
import Derived.Shelf.Small.Strs
import Derived.Defers
import Derived.Test.YtbbbblinjomajaaGreatDoorRows
import Derived.Test.YtbbbblinjomajaaGreatDoorProg
set_option linter.unusedVariables false
set_option linter.unusedSimpArgs false
namespace Go.Proofs.YtbbbblinjomajaaGreatDoor
open _root_.Go renaming Value->Acr,World->Acs,Program->AcN,TypeId->Acz,Oper->AcM,Exit->Afk,Operand->AcD,Result->Ag9,Edge->Adk,FuncId->Aed,binOp->Adb,IntKind->AdI
open _root_.Go.Lib renaming byteCells->Acv,byteCells_append->Ahd,byteCells_length->AcH,uvarint->AcT
open _root_.Array renaming getElem?_eq_some_iff->Adg,length_toList->AdZ,getElem?_eq_none->Ae9,getElem?_setIfInBounds_ne->Aew,getD_eq_getD_getElem?->Adi,toList_setIfInBounds->Afs,replicate->Aee,getElem?_replicate->Aex
open _root_.Option.some renaming inj->AcY
open _root_.Nat renaming le_trans->Acw,add_mul->AdN,mul_le_mul_right->AeS,add_zero->AfP,le_refl->Acy,strongRecOn->AfQ,zero_add->Aec,min->Ae5,beq->Af3,blt->Aef,le_of_ble_eq_true->AcF,min_eq_left->Ae7,mod_eq_of_lt->AfJ,zero_mul->Ae2,add_assoc->Aeq,add_sub_cancel_left->AeB,mul_comm->Agu
open _root_.Go.World renaming grownBy_alloc->Ahp,ownsRow_nil->Ad1,block_lt_of_cell?->AdE
open _root_.Go.Builtin renaming append_->Ae6,zeroCells->Adq,len_->Ahz
open _root_.List renaming length_append->Acx,size_toArray->Ac6,take_left->Af0,eq_nil_of_length_eq_zero->Adn,length_take->AcS,length_drop->AcU,map_toArray->AcJ,map_cons->AcL,map_nil->AcR,mem_map->Ado,length_cons->AcK,getElem?_eq_some_iff->AcW,getElem_mem->AdX,getD->AgI,getElem?_eq_getElem->AcG,range->AeE,getElem?_eq_none->Ad5,foldl_cons->Afy,getElem?_append_left->AdM,all_eq_true->Ads,mem_zipIdx_iff_getElem?->Af1,mem_append_right->AdS,mem_append_left->Afl,getElem?_toArray->Adw,mem_filterMap->Af9,map_take->Agc,getElem?_take->Aes,getElem?_drop->AeI,map_drop->Ahk,mem_cons->Ac8,mem_cons_of_mem->AdF,range'->Af5,flatMap_cons->Adm,getElem?_append_right->AdD,getD_eq_getElem?_getD->AcA,mem_append->Adf,append_assoc->AcV,take_left'->AdJ,not_mem_nil->Adx,length_singleton->Ac2,cons->AgN,nodup_cons->AdK,contains_iff_mem->AdL,nil_append->Ac9,cons_append->Ac3,nodup_append->AeA,mem_singleton->Ada,append_of_mem->Ad9
open _root_.Go.Value renaming ownBlock->Adc
open _root_.Go.Addr renaming add_lit->AdU,add->AeO
open _root_.Go.Oper renaming wp->AeL,upon->AeX
open _root_.Go.Sem renaming run_bind->AcC,run_pure->AcE
open _root_.Go.Result renaming andThen_ok->AcB,andThen->Adj,ok->AgK
open _root_.Go.RowKit.Below renaming refl->Adp
open _root_.Go.IntKind renaming min->AgY,max->AgZ,signed->AeY,bits->Aeg,wrap->AhA
open _root_.Go.DataW renaming trod->Agq,trod_int->Ag8
open _root_.Go.Region renaming binds->Adz,wanted->AdC,ready->AeG
open _root_.Bool renaming or_eq_true->Ad7,and_eq_true->AcZ,eq_iff_iff->AeM
open _root_.Go.Instr renaming storeAt->Aft,sureAddr->AeZ,sliceAt->AeP,loadAt->Ahy,buildSlice->Ac1
open _root_.Option renaming map_some->AdP,map_none->Aek
open _root_.Go.Calls renaming mono->Aeo
open _root_.Go.Op renaming equal->Afa,maxDepth->AfI,equalIn->Aep,intCmp->Afj,stringOp->Af6
open _root_.Int renaming toNat_natCast->AcX,fdiv_eq_ediv_of_nonneg->Agd
open _root_.BitVec renaming ofNat->Ae1,toNat_ofNat->AfB
abbrev AhU:=List UInt8
open Go.RowKit
/-! Short names for what stands in the walks again and again. -/
abbrev PQ(b o:Nat):Acr:= .pointer (some ⟨b,o,none⟩)
abbrev St(l:AhU):Acr:= .string ⟨l.toArray⟩
abbrev AB(l:AhU):Acr:= .agg (Acv l).toArray
abbrev OB(v:Acr)(g:Nat):Prop:=v.ownBlock≠some g
theorem AM{x v:Acr}(h:x=v):x=v:=h
theorem AO{a b n:Nat}(h:a<b)(e:b=n):a<n:=e▸h
theorem vr{x:Acr}(y:Acr)(h:x=y):x=y:=h
theorem bl{α:Type}{xs:Array α}{i:Nat}{o:α}(h:xs[i]? =some o):i<xs.size:=(Adg.1 h).1
theorem kb{w w' :Acs}{g n:Nat}{o:Obj}(hg:w.grownBy w' (some g))(hb:w.heap[n]? =some o)(h:n≠g):w'.heap[n]? =some o:=(hg.block n (bl hb) (fun e=>h (AcY e))).trans hb

structure Grew (w w' : Acs) (v v' : Acr) : Prop where
 by_:w.grownBy w' v.ownBlock
 fresh:∀k,v'.ownBlock=some k->v.ownBlock=some k\/w.heap.size<=k
theorem Aa{w w1 w2:Acs}{r r1:Option Nat}(h:w.grownBy w1 r)(k:w1.grownBy w2 r1)(hr:∀b,r1=some b->r=some b\/w.heap.size<=b):w.grownBy w2 r:=by
 refine⟨k.os.trans h.os,k.tape.trans h.tape,k.output.trans h.output,Acw h.size k.size,fun i hi hne=> ?_⟩;have h1:=h.size;rw[k.block i (by omega) (fun e=>(hr i e.symm).elim (fun h2=>hne h2.symm) (fun h2=>by omega)),h.block i hi hne]
theorem Grew.eqv{w w' :Acs}{x v v' :Acr}(e:x=v)(h:Grew w w' x v'):Grew w w' v v' :=e▸h
theorem Grew.refl(w:Acs)(v:Acr):Grew w w v v:=⟨World.grownBy.refl _ _,fun _ h=> .inl h⟩
abbrev Acp:=@Grew.refl
theorem Grew.trans{w w1 w2:Acs}{v a c:Acr}(h:Grew w w1 v a)(k:Grew w1 w2 a c):Grew w w2 v c:=
 ⟨Aa h.by_ k.by_ h.fresh,fun b hb=>by
  have h1:=h.by_.size;rcases k.fresh b hb with h2 | h2
  ·exact h.fresh b h2
  ·exact .inr (by omega)⟩
theorem Grew.alloc{w w1:Acs}{v a:Acr}(h:Grew w w1 v a)(o:Obj):Grew w (w1.alloc o) v a:=
 ⟨Aa h.by_ (Ahp _ o none) (fun _ e=>by cases e),h.fresh⟩
theorem Grew.drew{w w1:Acs}{v a:Acr}(h:Grew w w1 v a):Grew w w1.drew v a:=
 ⟨⟨h.by_.os,h.by_.tape,h.by_.output,h.by_.size,h.by_.block⟩,h.fresh⟩
section
variable {P : AcN} (w : Acs)
theorem Fd(base:Nat)(t tx ty e:Acz)(i:TypeInfo)(z:Acr)(size bytes:Nat)(ht:P.underlying t=some (.slice e))(hi:P.info? e=some i)(hz:i.zero=some z) 
  (hsize:i.size=size) (hby:i.bytes=bytes) (hzs:z.cells.size=size)
  (v:Acr) (n:Nat) (xs:List Acr) (hown:w.ownsRow base e size v n xs)
  (x:Acr) (m:Nat) (news:List Acr) (hs:Src P size tx x m news w)
  (h63:n+m<=maxLen) (hbytes:(n+m)*bytes<=140737488355328) (hbase:base<=w.heap.size):
  ∃v' w',(Ae6 #[t,tx] ty #[v,x]).run P w = .ok v' w' /\w'.ownsRow base e size v' (n+m) (xs++news)/\Grew w w' v v' :=by
 subst hsize;subst hby
 have hsmall:n+m<=9223372036854775807:=by simp only[maxLen]at h63;omega
 have hl:=hs.newsLen;have hlen:(xs++news).length=(n+m)*i.size:=by rw[Acx,hown.1,hl,AdN]
 have grown:∀(old:Nat),old<n+m ->
   (w.drew.alloc (.cells ((xs++news).toArray++Adq z.cells (grownCap w (n+m) old e-(n+m))) e)).ownsRow base e i.size
    (.slice (some ⟨w.heap.size,0,none⟩) (n+m) (grownCap w (n+m) old e)) (n+m) (xs++news) /\
   Grew w (w.drew.alloc (.cells ((xs++news).toArray++Adq z.cells (grownCap w (n+m) old e-(n+m))) e)) v (.slice (some ⟨w.heap.size,0,none⟩) (n+m) (grownCap w (n+m) old e)):=by
  intro old ho;have hge:=grownCap_ge w (n+m) old e;have hcm:grownCap w (n+m) old e<=maxLen:=grownCap_le_maxLen w (n+m) old e h63;refine⟨⟨hlen, .inr ⟨w.heap.size,_,_,rfl,hbase,heap_alloc_new w.drew _,hge,hcm,?_,?_⟩⟩,⟨⟨rfl,rfl,rfl,by simp,fun _ hk _=>heap_alloc_old w.drew _ hk⟩,?_⟩⟩
  ·simp only[Array.size_append,Ac6,size_zeroCells,hzs,hlen,<-AdN]
   congr 1
   omega
  ·simp only[Array.toList_append];rw[<-hlen];exact Af0
  ·intro k hk;simp[Adc]at hk;exact .inr (by omega)
 rcases hown.2 with ⟨rfl,rfl⟩ | ⟨g,cap,cur,rfl,hbg,hg,hnc,hcm,hcs,htake⟩
 ·have hx:xs= []:=Adn (by simpa using hown.1);subst hx;by_cases hm:m=0
  ·subst hm;have hn:news= []:=Adn (by simpa using hl);subst hn;refine⟨.slice none 0 0,w,?_,Ad1 w base e i.size,Acp _ _⟩;have hc:=hs.cells;have hle:=hs.len;rcases hs.kind with ⟨e',hk⟩ | hk <;> simp[Ae6,run_underlying ht,run_underlying hk,sizeOf,typeInfo,hi,hle,hc]
  ·have hgr:=grown 0 (by omega);have hr:=run_append_grow_src (P:=P) w t tx ty e i z ht hi hz none 0 0 [] (run_firstCells_none w.drew i.size 0 0 0) x m news hs (by omega) (by omega)
    (growslice_fits (by omega) hbytes)
   exact⟨_,_,hr,hgr.1,hgr.2⟩
 ·by_cases hroom:n+m<=cap
  ·have hfit:n*i.size+news.length<=cur.size:=by rw[hl,hcs,<-AdN];exact AeS _ hroom
   have hst:=run_storeCells_at P g (n*i.size) e news 0 cur w hg (by simpa using hfit) hs.one;simp only[AfP]at hst;have hr:(Ae6 #[t,tx] ty #[.slice (some ⟨g,0,none⟩) n cap,x]).run P w = .ok (.slice (some ⟨g,0,none⟩) (n+m) cap) (w.setRow g (cur.toList.take (n*i.size)++news++cur.toList.drop (n*i.size+news.length)).toArray):=by
    rcases hs.kind with ⟨e',hk⟩ | hk <;> simp[Ae6,run_underlying ht,run_underlying hk,sizeOf,typeInfo,hi,hs.len,hroom,hs.cells,AdU,hst]
   refine⟨_,_,hr,⟨hlen, .inr ⟨g,cap,_,rfl,hbg,setRow_heap w g cur _ e _ hg,hroom,hcm,?_,?_⟩⟩,⟨⟨rfl,rfl,rfl,by simp,fun k _ hk=>setRow_other w g k _ (fun e=>hk (by simp[Adc,e]))⟩,fun k hk=> .inl hk⟩⟩
   ·simp only[Ac6,Acx,AcS,AcU,AdZ];omega
   ·rw[htake,<-hlen];exact Af0
  ·have holds:∀j u,xs[j]? =some u->w.cell? ((⟨g,0,none⟩:Addr).add j)=some u:=hown.cells (g:=g) rfl;have hgr:=grown cap (by omega);have hr:=run_append_grow_src (P:=P) w t tx ty e i z ht hi hz (some ⟨g,0,none⟩) n cap xs (run_firstCells_some w.drew i.size n ⟨g,0,none⟩ n cap xs hown.1 (by simpa using holds)) x m news hs (by omega) (by omega)
    (growslice_fits (by omega) hbytes)
   exact⟨_,_,hr,hgr.1,hgr.2⟩
theorem Dh{ops:Array AcM}{rest:List AcM}{o:AcM}{a:Act}{Q:Afk->Act->Acs->Prop}(hgd:o.guard=none)(s xo:AcD)(t tx:Acz) 
  (ho:o.op = .call { callee:= .builtin .append,args:= #[s,xo],argTypes:= #[t,tx] })
  (base:Nat) (e:Acz) (i:TypeInfo) (z:Acr) (size bytes:Nat) (ht:P.underlying t=some (.slice e)) (hi:P.info? e=some i) (hz:i.zero=some z)
  (hsize:i.size=size) (hby:i.bytes=bytes) (hzs:z.cells.size=size)
  (v:Acr) (n:Nat) (xs:List Acr) (hs:a.eval s=v) (hown:w.ownsRow base e size v n xs)
  (x:Acr) (m:Nat) (news:List Acr) (hx:a.eval xo=x) (hsrc:Src P size tx x m news w)
  (h63:n+m<=maxLen) (hbytes:(n+m)*bytes<=140737488355328) (hbase:base<=w.heap.size)
  (h:∀v' w',w'.ownsRow base e size v' (n+m) (xs++news)->Grew w w' v v' ->wpList P ops Q rest (a.put o.dst v') w'):wpList P ops Q (o :: rest) a w:=
 wpList_plain hgd fun K hK=>by
  obtain⟨v',w',hr,h2,h3⟩:=Fd (P:=P) w base t tx o.type e i z size bytes ht hi hz hsize hby hzs v n xs hown x m news hsrc h63 hbytes hbase;unfold AeL execOp;simp only[ho,resolve,invoke,builtin,AcC,AcE,AcB,AcJ,AcL,AcR,hs,hx,hr];exact hK _ _ (h v' w' h2 h3)
end
theorem AJ{w:Acs}{b b' :Nat}{e:Acz}{size:Nat}{v:Acr}{n:Nat}{xs:List Acr}(h:w.ownsRow b e size v n xs)(hb:b' <=b):w.ownsRow b' e size v n xs:=
 ⟨h.1,h.2.imp (fun x=>x) (fun⟨g,cap,cur,a,c,r⟩=>⟨g,cap,cur,a,Acw hb c,r⟩)⟩
def Reads(w:Acs)(size:Nat)(v:Acr)(n:Nat)(xs:List Acr):Prop:=
 xs.length=n*size/\∃ao cap,v = .slice ao n cap/\n<=cap/\cap<=maxLen/\(ao=none->n=0/\cap=0)/\∀a,ao=some a->∀j u,xs[j]? =some u->w.cell? (a.add j)=some u
def RB(w:Acs)(v:Acr)(l:AhU):Prop:=Reads w 1 v l.length (Acv l)

theorem Ax(l:AhU):∀u∈Acv l,u.oneCell' =true:=by
 intro u hu;obtain⟨_,_,rfl⟩:=Ado.1 hu;rfl
theorem RB.src{P:AcN}{tx e' :Acz}(hk:P.underlying tx=some (.slice e')){w:Acs}{v:Acr}{l:AhU}(h:RB w v l):Src P 1 tx v l.length (Acv l) w:=by
 obtain⟨h1,ao,cap,rfl,h2,h3,h4,h5⟩:=h;cases ao with
 | none=>
  obtain⟨h6,rfl⟩:=h4 rfl;have:l= []:=Adn h6;subst this;exact Src.ofNil w hk 0
 | some a=>exact Src.ofSlice w hk a _ cap _ h1 (h5 a rfl) (Ax l)
theorem RB.below{B:Nat}{w w' :Acs}{v:Acr}{l:AhU}(h:RB w v l)(hb:Below B w w')(hB:B=w.heap.size):RB w' v l:=by
 obtain⟨h1,ao,cap,rfl,h2,h3,h4,h5⟩:=h;refine⟨h1,ao,cap,rfl,h2,h3,h4,fun a ha j u hu=> ?_⟩;have:=h5 a ha j u hu;exact(hb.cell (by have:=AdE w _ this;omega)).trans this
theorem TL(s:ByteArray):byteCells s=Acv s.data.toList:=rfl
theorem Rw{P:AcN}{tx:Acz}(hk:P.underlying tx=some .string)(w:Acs)(s:ByteArray):Src P 1 tx (.string s) s.data.toList.length (Acv s.data.toList) w:=by
 have h:=Src.ofString (P:=P) w hk s;rw[TL]at h;exact h
theorem Zc{w:Acs}{base:Nat}{e:Acz}{v:Acr}{l:AhU}(h:w.ownsRow base e 1 v l.length (Acv l)):RB w v l:=by
 refine⟨h.1,?_⟩;have h' :=h;rcases h.2 with ⟨rfl,h0⟩ | ⟨g,cap,cur,rfl,hbg,hg,hnc,hcm,hcs,htake⟩
 ·exact⟨none,0,by rw[h0],by omega,by simp[maxLen],fun _=>⟨h0,rfl⟩,fun a ha=>by cases ha⟩
 ·exact⟨some ⟨g,0,none⟩,cap,rfl,hnc,hcm,(fun h=>by cases h),(fun a ha j u hu=>by cases ha;exact h'.cells rfl j u hu)⟩
theorem Rx{P:AcN}{tx e' :Acz}(hk:P.underlying tx=some (.slice e'))(w:Acs)(c:Acr)(t:Acz)(hc:c.oneCell' =true):Src P 1 tx (.slice (some ⟨w.heap.size,0,none⟩) 1 1) 1 [c] (w.alloc (.cells #[c] t)):=
 Src.ofSlice _ hk ⟨w.heap.size,0,none⟩ 1 1 [c] rfl (fun j u hj=>by
  match j,hj with
  | 0,hj=>simp at hj;subst hj;simp[AeO]) (fun u hu=>by simp at hu;subst hu;exact hc)
structure NewB (e : Acz) (w w' : Acs) (v : Acr) (l : AhU) : Prop where
 own:w'.ownsRow w.heap.size e 1 v l.length (Acv l)
 by_:w.grownBy w' none
theorem NewB.below{e:Acz}{w w' :Acs}{v:Acr}{l:AhU}(h:NewB e w w' v l):Below w.heap.size w w' :=
 (Adp _ _).grown h.by_ (Acy _) (fun k hk=>by cases hk)
theorem NewB.more{e:Acz}{w w1 w2:Acs}{v v' :Acr}{l l' :AhU}(h:NewB e w w1 v l)(g:Grew w1 w2 v v')(ho:w2.ownsRow w.heap.size e 1 v' (l.length+l'.length) (Acv l++Acv l')):NewB e w w2 v' (l++l'):=
 ⟨by rw[Ahd,Acx];exact ho,Aa h.by_ g.by_ (fun b hb=> .inr (h.own.lt b hb).1)⟩
theorem RB.keep{w w' :Acs}{v:Acr}{l:AhU}(h:RB w v l)(hb:Below w.heap.size w w'):RB w' v l:=h.below hb rfl
theorem RB.len{w:Acs}{v:Acr}{l:AhU}(h:RB w v l):∃ao cap,v = .slice ao l.length cap/\l.length<=cap/\cap<=9223372036854775807:=by
 obtain⟨h1,ao,cap,rfl,h2,h3,h4,h5⟩:=h;unfold maxLen at h3;exact⟨ao,cap,rfl,h2,h3⟩
open Go.ChangeShapes Go.WideShapes Go.ChangeAt Go.RowKit
open Go.ChangeMaps (open_string shut_string)
theorem Nc{H:Type}(d:DataW H):1<=Rows.uptoBulk d:=by
 cases d with
 | lit l=>cases l <;> simp[Rows.uptoBulk]
 | nil=>simp[Rows.uptoBulk]
 | ptr d=>simp[Rows.uptoBulk]
 | slice elems spare=>simp[Rows.uptoBulk]
 | agg parts=>simp[Rows.uptoBulk]
 | iface t d=>simp[Rows.uptoBulk]
 | map entries=>simp[Rows.uptoBulk]
 | held h=>simp[Rows.uptoBulk]
theorem Jp{H:Type}(l:List (DataW H)):l.length<=Rows.uptoBulkAll l:=by
 induction l with
 | nil=>simp[Rows.uptoBulkAll]
 | cons x r ih=>have:=Nc x;simp only[Rows.uptoBulkAll,AcK];omega
theorem PV{H:Type}(elems spare:List (DataW H)):elems.length+spare.length+1<=Rows.uptoBulk (.slice elems spare):=by
 have h1:=Jp elems;have h2:=Jp spare;simp only[Rows.uptoBulk];omega
theorem PW{w:Acs}{a:Addr}{len cap:Nat}{zs:List Int}(hl:len<=cap)(hm:cap<=maxLen)(hz:len<=zs.length)(hc:∀i,i<zs.length->w.cell? (a.add i)=some (.int .u8 (zs.getD i 0)))(hw:∀n∈zs,(Lit.int .u8 n).wf=true):
  RB w (.slice (some a) len cap) ((zs.take len).map fun n=>UInt8.ofNat n.toNat):=by
 have hlen:((zs.take len).map fun n=>UInt8.ofNat n.toNat).length=len:=by simp;omega
 refine⟨by rw[AcH,hlen,Nat.mul_one],some a,cap,by rw[hlen],by omega,hm,(fun h=>by cases h),fun a' ha j u hu=> ?_⟩;cases ha;have hj:j<len:=by
  have:=(AcW.1 hu).1;rw[AcH,hlen]at this;exact this
 have hjz:j<zs.length:=by omega
 have hwf:=hw zs[j] (AdX hjz);have hb:0<=zs[j]/\zs[j]<=255:=by simpa [Lit.wf,AgY,AgZ,AeY,Aeg] using hwf
 rw[hc j hjz];simp[Acv,hj,hjz]at hu;rw[<-hu]
 congr 1
 simp[AgI,hjz];omega
section
variable {H : Type} {enc : Acz × Acr -> H} {P : AcN} {W : Acs}
theorem ON{t e:Acz}{fuel:Nat}{cs:List Acr}{x:DataW H × List MemPlace}(ht:P.underlying t=some (.slice e))(he:P.underlying e=some (.int .u8))(hc:P.cellsOf e=1) 
  (hf:Agq enc P W 0 (fun _=>true) true fuel t cs=some x):∃c l,cs= [c]/\RB W c l/\l.length+1<=Rows.uptoBulk x.1:=by
 rcases open_ints ht he hc hf with ⟨hcs,hx⟩ | ⟨a,l,c,zs,hcs,_,hl,hm,hz,hx,hcell,hwz⟩
 ·exact⟨_,[],hcs,⟨rfl,none,0,rfl,Acy _,by simp[maxLen],fun _=>⟨rfl,rfl⟩,fun a h=>by cases h⟩,by have:=Nc x.1;simpa using this⟩
 ·simp at hz;refine⟨_,_,hcs,PW hl hm (by omega) hcell hwz,?_⟩;rw[hx];have:=PV (H:=H) (lits .u8 (zs.take l)) (lits .u8 (zs.drop l));simp[lits]at this ⊢;omega
theorem TM{t e:Acz}{n fuel:Nat}{cs:List Acr}{x:DataW H × List MemPlace}(ht:P.underlying t=some (.array n e))(he:P.underlying e=some (.int .u8))(hc:P.cellsOf e=1)(hn:P.cellsOf t=n) 
  (hf:Agq enc P W 0 (fun _=>true) true fuel t cs=some x):∃l:AhU,l.length=n/\cs=Acv l:=by
 obtain⟨xs,m,rfl,rfl,hlen,hxs,hel⟩:=DataW.trod_array ht hf;rw[hc]at hel;have hcell:∀i,(hi:i<n)->∃b:UInt8,cs[i]? =some (.int .u8 (b.toNat:Int)):=fun i hi=>by
  have h1:=hel i hi;have hx:xs[i]? =some (xs[i]'(by omega)):=AcG (by omega);rw[hx]at h1;obtain⟨a,c,_,wa⟩:=Ag8 he h1;have hb:0<=a/\a<=255:=by simpa [Lit.wf,AgY,AgZ,AeY,Aeg] using wa
  refine⟨UInt8.ofNat a.toNat,?_⟩;have h2:((cs.drop (i*1)).take 1)[0]? =some (.int .u8 a):=by rw[c];rfl
  simp at h2;rw[h2]
  congr 2
  simp;omega
 refine⟨(AeE n).map fun i=>if h:i<n then Classical.choose (hcell i h)else 0,by simp,?_⟩
 apply List.ext_getElem?
 intro i;by_cases hi:i<n
 ·have:=Classical.choose_spec (hcell i hi);rw[this];simp[Acv,hi]
 ·rw[Ad5 (by omega),Ad5 (by simp[Acv];omega)]
end
theorem own:ownKnob Tryz.prog.godebug=none:=by kernel_rfl
theorem V8:laidOutB Tryz.prog=true:=by kernel_rfl
set_option maxRecDepth 100000
open Go.ChangeShapes Go.WideShapes Go.ChangeAt
noncomputable def Ii(os:Os):Acs:=World.laidAll Tryz.prog os Rows.journalNilRow.laid
theorem TN(os:Os)(args:Array Acr):laidMet Tryz.prog Rows.journalNilRow.laid ((Ii os).forCall (fun _ _=>0) ⟨#[],args,[]⟩).memory:=
 laidMet_laidAll _ (by kernel_rfl) (by kernel_rfl)
abbrev BO:=Acr->Acs->Prop
def Is(v:Acr):BO:=fun x _=>x=v
def Ab(ρ:Tmp->Acr):AcD->Acr
 | .tmp t=>ρ t
 | .const v=>v
 | .global g=> .pointer (some ⟨g,0,none⟩)
 | .func f=> .func (.func f) #[] #[]
theorem evalR_eq(a:Act):Ab (fun t=>a.tmps.getD t undef)=a.eval:=by
 funext x
 cases x <;> rfl
def Yk(P:AcN)(K:Acr->Acs->Prop):Ag9 Next->Prop
 | .ok (.value v) w=>K v w
 | .ok .skip w=>K undef w
 | .ok (.enter f args) w=>Calls P f args w fun e w' =>∃v,e = .returned v/\K v w'
 | _=>False
def DH(l:List AcM)(t:Tmp):Nat->Option Nat
 | 0=>none
 | n+1=>if(l[n]?.bind (·.dst))=some t then some n else DH l t n
def Ga(l:List AcM)(Φ:Nat->BO)(T:Array Acr)(n:Nat)(t:Tmp)(x:Acr)(w:Acs):Prop:=
 match DH l t n with
 | none=>x=T.getD t undef
 | some k=>Φ k x w
def AY(l:List AcM)(o:AcM)(ρ:Tmp->Acr):Bool:=
 match o.guard with
 | none=>true
 | some (g,want)=>match (l[g]?).bind (·.dst)with
  | some t=>(match ρ t with | .bool b=>b==want | _=>false)
  | none=>false
def Kj(P:AcN)(l:List AcM)(C:Nat->Acs->Prop)(R:Nat->Acs->Acs->Prop)(Φ:Nat->BO)(T:Array Acr)(n:Nat)(o:AcM):Prop:=
 ∀(ρ:Tmp->Acr) (w:Acs),C n w->(∀t∈o.looksAt l.toArray,Ga l Φ T n t (ρ t) w) ->
  if AY l o ρ=true then Yk P (fun v w' =>R n w w' /\Φ n v w') ((execOp (Ab ρ) o).run P w)else Φ n undef w
def StepsOk(P:AcN)(l:List AcM)(C:Nat->Acs->Prop)(R:Nat->Acs->Acs->Prop)(Φ:Nat->BO)(T:Array Acr):Nat->List AcM->Prop
 | _,[]=>True
 | n,o :: r=>Kj P l C R Φ T n o/\StepsOk P l C R Φ T (n+1) r
theorem StepsOk.get{P:AcN}{l:List AcM}{C:Nat->Acs->Prop}{R:Nat->Acs->Acs->Prop}{Φ:Nat->BO}{T:Array Acr}:
  ∀(r:List AcM) (n:Nat),StepsOk P l C R Φ T n r->∀k o,r[k]? =some o->Kj P l C R Φ T (n+k) o
 | [],_,_,k,o,h=>by simp at h
 | x :: r,n,h,0,o,hk=>by simp at hk;subst hk;exact h.1
 | x :: r,n,h,k+1,o,hk=>by
  have:=StepsOk.get r (n+1) h.2 k o (by simpa using hk)
  rwa [show n+(k+1)=n+1+k by omega]
/-! ### The edges' closure, as bits -/
def GX(acc:List Nat)(o:AcM):Nat:=
 o.after.toList.foldl (fun s e=>if Adz .any e then s|||2^e.on|||acc.getD e.on 0 else s) 0
def AZ:List AcM->List Nat->List Nat
 | [],acc=>acc
 | o :: r,acc=>AZ r (acc++ [GX acc o])
theorem Nd(acc:List Nat)(k:Nat):∀(es:List Adk) (s:Nat),(es.foldl (fun s e=>if Adz .any e then s|||2^e.on|||acc.getD e.on 0 else s) s).testBit k=true ->
  s.testBit k=true\/∃e∈es,Adz .any e=true/\(e.on=k\/(acc.getD e.on 0).testBit k=true)
 | [],s,h=> .inl h
 | e :: es,s,h=>by
  rw[Afy]at h;rcases Nd acc k es _ h with h1 | ⟨e',he',hb,hx⟩
  ·by_cases hb:Adz .any e=true
   ·rw[if_pos hb]at h1;simp only[Nat.testBit_or,Ad7]at h1;rcases h1 with (h1 | h1) | h1
    ·exact .inl h1
    ·rw[Nat.testBit_two_pow]at h1;exact .inr ⟨e,by simp,hb, .inl (by simpa using h1)⟩
    ·exact .inr ⟨e,by simp,hb, .inr h1⟩
   ·rw[if_neg hb]at h1;exact .inl h1
  ·exact .inr ⟨e',by simp[he'],hb,hx⟩
theorem OO{acc:List Nat}{o:AcM}{k:Nat}(h:(GX acc o).testBit k=true):
  ∃e∈o.after,Adz .any e=true/\(e.on=k\/(acc.getD e.on 0).testBit k=true):=by
 rcases Nd acc k _ _ h with h1 | ⟨e,he,hb,hx⟩
 ·simp at h1
 ·exact⟨e,by simpa using he,hb,hx⟩
theorem JY(l:List AcM):∀(r:List AcM) (acc:List Nat),acc.length+r.length=l.length->(∀j,r[j]? =l[acc.length+j]?) ->
  (∀i o k,i<acc.length->l[i]? =some o->(acc.getD i 0).testBit k=true->∃e∈o.after,Adz .any e=true/\(e.on=k\/(e.on<i/\(acc.getD e.on 0).testBit k=true))) ->
  ∀i o k,l[i]? =some o->((AZ r acc).getD i 0).testBit k=true->∃e∈o.after,Adz .any e=true/\(e.on=k\/(e.on<i/\((AZ r acc).getD e.on 0).testBit k=true))
 | [],acc,hl,_,hacc,i,o,k,hi,h=>by
  have:i<l.length:=(AcW.1 hi).1;exact hacc i o k (by simp at hl;omega) hi h
 | x :: r,acc,hl,hr,hacc,i,o,k,hi,h=>by
  rw[AZ]at h ⊢;refine JY l r (acc++ [GX acc x]) (by simp at hl ⊢;omega) (fun j=>by have:=hr (j+1);simp at this ⊢;rw[this];congr 1;omega) ?_ i o k hi h;intro i o k hlt ho ht;have keep:∀j,j<acc.length->(acc++ [GX acc x]).getD j 0=acc.getD j 0:=fun j hj=>by
   simp[AgI,AdM hj]
  simp at hlt;by_cases hia:i<acc.length
  ·rw[keep i hia]at ht;obtain⟨e,he,hb,hx⟩:=hacc i o k hia ho ht;exact⟨e,he,hb,hx.imp id (fun h2=>⟨h2.1,by rw[keep _ (by omega)];exact h2.2⟩)⟩
  ·have hie:i=acc.length:=by omega
   subst hie;have a:x=o:=by
    have:=hr 0;simp[ho]at this;exact this
   subst a;have b:(acc++ [GX acc x]).getD acc.length 0=GX acc x:=by simp[AgI]
   rw[b]at ht;obtain⟨e,he,hb,hx⟩:=OO ht;refine⟨e,he,hb,hx.imp id (fun h2=> ?_)⟩;by_cases hl:e.on<acc.length
   ·exact⟨hl,by rw[keep _ hl];exact h2⟩
   ·simp[AgI,Ad5 (show acc.length<=e.on by omega)]at h2
def I6(l:List AcM)(o:AcM):List Tmp:=o.dst.toList++o.looksAt l.toArray
def DR(l:List AcM)(size:Nat):Bool:=
 let m:=AZ l []
 l.zipIdx.all fun(o,j)=>
  (o.after.all fun e=> !Adz .any e||e.on<j) &&
  (match o.dst with | some d=>decide (d<size) | none=>true) &&
  l.zipIdx.all fun(p,i)=>decide (j<=i)||((match p.dst with | some d=> !(I6 l o).contains d | none=>true)&&(match o.dst with | some d=> !(I6 l p).contains d | none=>true))||(m.getD j 0).testBit i
structure Nf (l : List AcM) (size : Nat) : Prop where
 back:∀(j:Nat) (o:AcM),l[j]? =some o->∀e∈o.after,Adz .any e=true->e.on<j
 room:∀(j:Nat) (o:AcM) (d:Tmp),l[j]? =some o->o.dst=some d->d<size
 tied:∀(j:Nat) (o:AcM) (i:Nat) (p:AcM) (d:Tmp),l[j]? =some o->l[i]? =some p->i<j->(p.dst=some d/\d∈I6 l o\/o.dst=some d/\d∈I6 l p)->((AZ l []).getD j 0).testBit i=true
theorem I7{l:List AcM}{size:Nat}(h:DR l size=true):Nf l size:=by
 unfold DR at h;simp only[Ads]at h;have hz:∀j o,l[j]? =some o->(o,j)∈l.zipIdx:=fun j o ho=>by
  rw[Af1];exact ho
 refine⟨fun j o ho e he hb=> ?_,fun j o d ho hd=> ?_,fun j o i p d ho hp hij hx=> ?_⟩
 ·have:=h _ (hz j o ho);simp only[AcZ]at this;have h2:=Array.all_eq_true_iff_forall_mem.1 this.1.1 e he
  simpa [hb] using h2
 ·have:=h _ (hz j o ho);simp only[AcZ,hd]at this
  simpa using this.1.2
 ·have:=h _ (hz j o ho);simp only[AcZ,Ads]at this;have h2:=this.2 _ (hz i p hp);simp only[Ad7,decide_eq_true_eq,AcZ]at h2;rcases h2 with (h2 | h2) | h2
  ·omega
  ·exfalso;rcases hx with ⟨h3,h4⟩ | ⟨h3,h4⟩
   ·have h5:=h2.1;rw[h3]at h5;simp at h5;exact h5 h4
   ·have h5:=h2.2;rw[h3]at h5;simp at h5;exact h5 h4
  ·exact h2
def FW(l:List AcM)(kill:Nat->List Nat):Bool:=
 let m:=AZ l []
 l.zipIdx.all fun(o,j)=>(AeE l.length).all fun n=>decide (n=j)||(kill n).all fun k=>(m.getD n 0).testBit j||(o.looksAt l.toArray).all fun t=>DH l t j != some k
theorem V9{l:List AcM}{kill:Nat->List Nat}(h:FW l kill=true)(j n k:Nat)(o:AcM)(t:Tmp)(ho:l[j]? =some o)(hn:n<l.length)(hne:n≠j)(hk:k∈kill n)(ht:t∈o.looksAt l.toArray)(hw:DH l t j=some k):((AZ l []).getD n 0).testBit j=true:=by
 unfold FW at h;simp only[Ads]at h;have h1:=h (o,j) (by rw[Af1];exact ho) n (by simpa using hn);simp only[Ad7,decide_eq_true_eq,hne,false_or,Ads]at h1;rcases h1 k hk with h2 | h2
 ·exact h2
 ·have:=h2 t ht;simp[hw]at this
section
variable {P : AcN} {l : List AcM} {kill : Nat -> List Nat} {C : Nat -> Acs -> Prop} {E : Array Bool -> Acs -> Prop} {R : Nat -> Acs -> Acs -> Prop} {Φ : Nat -> BO} {a0 : Act}
def On(listed:Array Bool)(i:Nat):Prop:=listed.getD i false=true
theorem On.lt{listed:Array Bool}{i:Nat}(h:On listed i):i<listed.size:=by
 unfold On at h;rcases Nat.lt_or_ge i listed.size with h' | h'
 ·exact h'
 ·simp[Ae9 h']at h
theorem AR{listed:Array Bool}{i j:Nat}(hi:i<listed.size):On (listed.setIfInBounds i true) j↔j=i\/On listed j:=by
 unfold On;by_cases h:i=j
 ·subst h;simp[hi]
 ·simp[Aew h,Ne.symm h]
structure Inv (l : List AcM) (kill : Nat -> List Nat) (C : Nat -> Acs -> Prop) (E : Array Bool -> Acs -> Prop) (Φ : Nat -> BO) (a0 : Act) (listed : Array Bool) (a : Act) (w : Acs) : Prop where
 size:listed.size=l.length
 closed:∀i o,l[i]? =some o->On listed i->∀e∈o.after,Adz .any e=true->On listed e.on
 defers:a.defers=a0.defers
 tmps:a.tmps.size=a0.tmps.size
 cls:∀n,n<l.length->¬On listed n->C n w
 ecl:E listed w
 old:∀t,(∀k o,l[k]? =some o->o.dst=some t->¬On listed k)->a.tmps.getD t undef=a0.tmps.getD t undef
 new:∀t k o,l[k]? =some o->o.dst=some t->On listed k->(∀k' o',k<k' ->l[k']? =some o' ->o'.dst=some t->¬On listed k')->(∀n,On listed n->k∉kill n)->Φ k (a.tmps.getD t undef) w
theorem Inv.mask{listed:Array Bool}{a:Act}{w:Acs}(h:Inv l kill C E Φ a0 listed a w):
  ∀(i k:Nat),On listed i->((AZ l []).getD i 0).testBit k=true->On listed k:=by
 intro i
 induction i using AfQ with
 | _ i ih=>
  intro k hi hk;have hlt:i<l.length:=by have:=hi.lt;rw[h.size]at this;exact this
  have ho:l[i]? =some l[i]:=AcG hlt;obtain⟨e,he,hb,hx⟩:=JY l l [] (by simp) (by simp) (fun i o k hi=>by simp at hi) i l[i] k ho hk;have hon:=h.closed i _ ho hi e he hb;rcases hx with rfl | ⟨b,ht⟩
  ·exact hon
  ·exact ih e.on b k hon ht
theorem Inv.maskReady{listed:Array Bool}{a:Act}{w:Acs}(h:Inv l kill C E Φ a0 listed a w){i:Nat}{o:AcM}(ho:l[i]? =some o) 
  (hall:∀e∈o.after,Adz .any e=true->On listed e.on) {k:Nat} (hk:((AZ l []).getD i 0).testBit k=true):On listed k:=by
 obtain⟨e,he,hb,hx⟩:=JY l l [] (by simp) (by simp) (fun i o k hi=>by simp at hi) i o k ho hk;have hon:=hall e he hb;rcases hx with rfl | ⟨_,ht⟩
 ·exact hon
 ·exact h.mask _ _ hon ht
theorem Jq{t:Tmp}:∀(n:Nat),DH l t n=none->∀(k:Nat) (o:AcM),k<n->l[k]? =some o->o.dst≠some t
 | 0,_,k,o,hk,_=>by omega
 | n+1,h,k,o,hk,ho=>by
  unfold DH at h;split at h
  ·cases h
  ·rename_i hne
   by_cases hkn:k=n
   ·subst hkn;intro hd;simp[ho,hd]at hne
   ·exact Jq n h k o (by omega) ho
theorem GM{t:Tmp}{k:Nat}:∀(n:Nat),DH l t n=some k->k<n/\(∃o,l[k]? =some o/\o.dst=some t)/\∀(k' :Nat) (o' :AcM),k<k' ->k' <n->l[k']? =some o' ->o'.dst≠some t
 | 0,h=>by cases h
 | n+1,h=>by
  unfold DH at h;split at h
  ·rename_i he
   have hkn:n=k:=AcY h;subst hkn;refine⟨by omega,?_,fun k' o' h1 h2=>by omega⟩;cases ho:l[n]? with
   | none=>simp[ho]at he
   | some o=>exact⟨o,rfl,by simpa [ho] using he⟩
  ·rename_i hne
   obtain⟨h1,h2,h3⟩:=GM n h;refine⟨by omega,h2,fun k' o' hk hk' ho' hd=> ?_⟩;by_cases he:k' =n
   ·subst he;simp[ho',hd]at hne
   ·exact h3 k' o' hk (by omega) ho' hd
theorem Inv.look(g:Nf l a0.tmps.size)(hkl:FW l kill=true){listed:Array Bool}{a:Act}{w:Acs}(h:Inv l kill C E Φ a0 listed a w){i:Nat}{o:AcM}(ho:l[i]? =some o)(hi:¬On listed i) 
  (hall:∀e∈o.after,Adz .any e=true->On listed e.on) (t:Tmp) (ht:t∈o.looksAt l.toArray):Ga l Φ a0.tmps i t (a.tmps.getD t undef) w:=by
 have hlate:∀k o',i<=k->l[k]? =some o' ->o'.dst=some t->¬On listed k:=fun k o' hk ho' hd hon=>by
  by_cases he:k=i
  ·subst he;exact hi hon
  ·exact hi (h.mask k i hon (g.tied k o' i o t ho' ho (by omega) (.inr ⟨hd,AdS _ ht⟩)))
 unfold Ga;split
 ·rename_i hw
  refine h.old t fun k o' ho' hd hon=> ?_;by_cases hk:k<i
  ·exact Jq _ hw k o' hk ho' hd
  ·exact hlate k o' (by omega) ho' hd hon
 ·rename_i k hw
  obtain⟨hk,⟨ok,hok,hdk⟩,hno⟩:=GM _ hw;refine h.new t k ok hok hdk (h.maskReady ho hall (g.tied i o k ok t ho hok hk (.inl ⟨hdk,AdS _ ht⟩))) (fun k' o' hkk ho' hd=> ?_) (fun n hon hkn=> ?_)
  ·by_cases hki:k' <i
   ·exact absurd hd (hno k' o' hkk hki ho')
   ·exact hlate k' o' (by omega) ho' hd
  ·have hne:n≠i:=fun e=>hi (e▸hon);exact hi (h.mask n i hon (V9 hkl i n k o t ho (by have:=hon.lt;rw[h.size]at this;exact this) hne hkn ht hw))
theorem Inv.put(g:Nf l a0.tmps.size)(hC:∀n m,n<l.length->m<l.length->n≠m->((AZ l []).getD n 0).testBit m=false->∀w w',C m w->R n w w' ->C m w')(hE:∀n listed w w',n<l.length->listed.size=l.length->¬On listed n->(∀i k,On listed i\/i=n->((AZ l []).getD i 0).testBit k=true->On listed k)->E listed w->R n w w' ->E (listed.setIfInBounds n true) w')(hΦ:∀n i,n<l.length->i<l.length->i∉kill n->i≠n->((AZ l []).getD i 0).testBit n=false->∀v w w',Φ i v w->R n w w' ->Φ i v w'){listed:Array Bool}{a:Act}{w:Acs}(h:Inv l kill C E Φ a0 listed a w){i:Nat}{o:AcM}(ho:l[i]? =some o)(hi:¬On listed i) 
  (hall:∀e∈o.after,Adz .any e=true->On listed e.on) {v:Acr} {w' :Acs} (hR:R i w w') (hv:Φ i v w'):Inv l kill C E Φ a0 (listed.setIfInBounds i true) (a.put o.dst v) w' :=by
 have hil:i<listed.size:=by rw[h.size];exact(AcW.1 ho).1
 have hget:∀t,o.dst≠some t->(a.put o.dst v).tmps.getD t undef=a.tmps.getD t undef:=fun t ht=>by
  cases hd:o.dst with
  | none=>rfl
  | some d=>
   have hne:d≠t:=fun e=>ht (by rw[hd,e]);simp[Act.put,Aew hne]
 have hilen:i<l.length:=(AcW.1 ho).1;refine⟨by simpa using h.size,fun j oj hj hon e he hb=> ?_,?_,?_,fun m hm hno=> ?_,hE i listed w w' hilen h.size hi (fun j k hj hk=>hj.elim (fun hj=>h.mask j k hj hk) (fun hj=>by subst hj;exact h.maskReady ho hall hk)) h.ecl hR,fun t ht=> ?_,fun t k ok hk hd hon hlast hkl=> ?_⟩
 ·rcases(AR hil).1 hon with rfl | hon
  ·obtain rfl:o=oj:=by rw[ho]at hj;exact AcY hj
   exact(AR hil).2 (.inr (hall e he hb))
  ·exact(AR hil).2 (.inr (h.closed j oj hj hon e he hb))
 ·cases hd:o.dst <;> exact h.defers
 ·cases hd:o.dst with
  | none=>exact h.tmps
  | some d=>simpa [Act.put] using h.tmps
 ·have hnm:i≠m:=fun e=>hno ((AR hil).2 (.inl e.symm));have hoff:¬On listed m:=fun h' =>hno ((AR hil).2 (.inr h'));refine hC i m hilen hm hnm ?_ _ _ (h.cls m hm hoff) hR;cases hb:((AZ l []).getD i 0).testBit m with
  | false=>rfl
  | true=>exact absurd (h.maskReady ho hall hb) hoff
 ·have hne:o.dst≠some t:=fun hd=>ht i o ho hd ((AR hil).2 (.inl rfl));rw[hget t hne];exact h.old t fun k ok hk hd hon=>ht k ok hk hd ((AR hil).2 (.inr hon))
 ·by_cases hdt:o.dst=some t
  ·by_cases hki:k=i
   ·subst hki;have hroom:=g.room k o t ho hdt;have:(a.put o.dst v).tmps.getD t undef=v:=by
     rw[hdt];simp[Act.put,h.tmps,hroom]
    rw[this];exact hv
   ·exfalso;rcases(AR hil).1 hon with he | hon
    ·exact hki he
    ·rcases Nat.lt_or_gt_of_ne hki with hlt | hgt
     ·exact hlast i o hlt ho hdt ((AR hil).2 (.inl rfl))
     ·exact hi (h.mask k i hon (g.tied k ok i o t hk ho hgt (.inl ⟨hdt,Afl _ (by simp[hd])⟩)))
  ·have hki:k≠i:=fun e=>by subst e;rw[ho]at hk;cases hk;exact hdt hd
   rw[hget t hdt];have hkon:On listed k:=((AR hil).1 hon).resolve_left hki;have hmf:((AZ l []).getD k 0).testBit i=false:=by
    cases hb:((AZ l []).getD k 0).testBit i with
    | false=>rfl
    | true=>exact absurd (h.mask k i hkon hb) hi
   refine hΦ i k (AcW.1 ho).1 (AcW.1 hk).1 (hkl i ((AR hil).2 (.inl rfl))) hki hmf _ _ _ (h.new t k ok hk hd (((AR hil).1 hon).resolve_left hki) (fun k' o' hkk ho' hd' hon' => ?_) (fun n hn=>hkl n ((AR hil).2 (.inr hn)))) hR;exact hlast k' o' hkk ho' hd' ((AR hil).2 (.inr hon'))
theorem LK(a:Act)(o:AcM):AY l o (fun t=>a.tmps.getD t undef)=AdC o (yielded l.toArray a.tmps):=by
 unfold AY AdC yielded;cases hg:o.guard with
 | none=>rfl
 | some gw=>
  obtain⟨g,want⟩:=gw;simp only[Adw];cases hd:(l[g]?).bind (·.dst)with
  | none=>simp
  | some t=>
   simp only[Option.bind_some];cases hx:a.tmps[t]? with
   | none=>simp[Adi,hx,undef]
   | some x=>cases x <;> simp[Adi,hx]
theorem Inv.step(g:Nf l a0.tmps.size)(hkl:FW l kill=true)(hC:∀n m,n<l.length->m<l.length->n≠m->((AZ l []).getD n 0).testBit m=false->∀w w',C m w->R n w w' ->C m w')(hE:∀n listed w w',n<l.length->listed.size=l.length->¬On listed n->(∀i k,On listed i\/i=n->((AZ l []).getD i 0).testBit k=true->On listed k)->E listed w->R n w w' ->E (listed.setIfInBounds n true) w')(hΦ:∀n i,n<l.length->i<l.length->i∉kill n->i≠n->((AZ l []).getD i 0).testBit n=false->∀v w w',Φ i v w->R n w w' ->Φ i v w')(hRr:∀n o w,l[n]? =some o->o.guard.isSome=true->R n w w){listed:Array Bool}{a:Act}{w:Acs}(h:Inv l kill C E Φ a0 listed a w){i:Nat}{o:AcM}(ho:l[i]? =some o)(hi:¬On listed i) 
  (hall:∀e∈o.after,Adz .any e=true->On listed e.on) (hs:Kj P l C R Φ a0.tmps i o) {K:Act->Acs->Prop} {Q:Afk->Act->Acs->Prop}
  (hK:∀a' w',Inv l kill C E Φ a0 (listed.setIfInBounds i true) a' w' ->K a' w'):wpOp P l.toArray Q i K a w:=by
 have hst:=hs (fun t=>a.tmps.getD t undef) w (h.cls i (AcW.1 ho).1 hi) (fun t ht=>h.look g hkl ho hi hall t ht);rw[LK,evalR_eq]at hst;unfold wpOp;simp only[Adw,ho];by_cases hw:AdC o (yielded l.toArray a.tmps)=true
 ·rw[if_pos hw]at hst ⊢;refine .inl ?_;unfold AeL
  generalize (execOp a.eval o).run P w=r at hst ⊢
  cases r with
  | halt x w' =>exact hst.elim
  | ok n w' =>
   cases n <;> simp only[Yk]at hst <;> simp only[AeX]
   case value v=>exact hK _ _ (h.put g hC hE hΦ ho hi hall hst.1 hst.2)
   case skip=>exact hK _ _ (h.put g hC hE hΦ ho hi hall hst.1 hst.2)
   case enter f args=>
    refine hst.mono fun e w'' hx=> ?_;obtain⟨v,rfl,h1,h2⟩:=hx;exact hK _ _ (h.put g hC hE hΦ ho hi hall h1 h2)
 ·rw[if_neg hw]at hst ⊢;have hgs:o.guard.isSome=true:=by
   cases hgo:o.guard with
   | none=>exact absurd (by unfold AdC;rw[hgo]) hw
   | some x=>rfl
  exact hK _ _ (h.put g hC hE hΦ ho hi hall (hRr i o w ho hgs) hst)
theorem GB:∀(L:List Bool) (i:Nat),L[i]? =some false->((L.set i true).filter (!·)).length+1=(L.filter (!·)).length
 | [],i,h=>by simp at h
 | x :: L,0,h=>by simp at h;subst h;simp
 | x :: L,i+1,h=>by
  have ih:=GB L i (by simpa using h);cases x <;> simp <;> omega
theorem FX:∀(L:List Bool),(L.filter (!·)).length=0->∀i:Nat,i<L.length->L[i]? =some true
 | [],_,i,h=>by simp at h
 | x :: L,h0,i,h=>by
  cases x
  ·simp at h0
  ·cases i with
   | zero=>rfl
   | succ i=>
    rw[List.getElem?_cons_succ];exact FX L (by simpa using h0) i (by simpa using h)
theorem W9(g:Nf l a0.tmps.size)(hkl:FW l kill=true)(hC:∀n m,n<l.length->m<l.length->n≠m->((AZ l []).getD n 0).testBit m=false->∀w w',C m w->R n w w' ->C m w')(hE:∀n listed w w',n<l.length->listed.size=l.length->¬On listed n->(∀i k,On listed i\/i=n->((AZ l []).getD i 0).testBit k=true->On listed k)->E listed w->R n w w' ->E (listed.setIfInBounds n true) w')(hΦ:∀n i,n<l.length->i<l.length->i∉kill n->i≠n->((AZ l []).getD i 0).testBit n=false->∀v w w',Φ i v w->R n w w' ->Φ i v w')(hRr:∀n o w,l[n]? =some o->o.guard.isSome=true->R n w w)(hs:StepsOk P l C R Φ a0.tmps 0 l){Q:Afk->Act->Acs->Prop} 
  (hQ:∀listed a' w',(∀i,i<l.length->On listed i)->Inv l kill C E Φ a0 listed a' w' ->Q .normal a' w'):
  ∀(fuel:Nat) (listed:Array Bool) (a:Act) (w:Acs),(listed.toList.filter (!·)).length=fuel->Inv l kill C E Φ a0 listed a w->wpAny P .any l.toArray Q fuel listed a w:=by
 have full:∀(listed:Array Bool) (a:Act) (w:Acs),Inv l kill C E Φ a0 listed a w->AeG .any l.toArray listed= []->∀i,i<l.length->On listed i:=by
  intro listed a w h hr i
  induction i using AfQ with
  | _ i ih=>
   intro hi;refine Classical.byContradiction fun hno=> ?_;have ho:l[i]? =some l[i]:=AcG hi;have:i∈AeG .any l.toArray listed:=by
    refine mem_ready.2 ⟨?_,l[i],by rw[Adw];exact ho,fun e he hb=> ?_⟩
    ·have hi' :i<listed.size:=by rw[h.size];exact hi
     unfold On at hno;simp[hi']at hno ⊢;exact hno
    ·have hlt:=g.back i _ ho e he hb;exact ih e.on hlt (by omega)
   rw[hr]at this;cases this
 intro fuel
 induction fuel with
 | zero=>
  intro listed a w hf h;have hon:∀i,i<l.length->On listed i:=fun i hi=>by
   have:=FX _ hf i (by rw[AdZ,h.size];exact hi);unfold On;simp at this;simp[this]
  have hr:AeG .any l.toArray listed= []:=by
   cases hr:AeG .any l.toArray listed with
   | nil=>rfl
   | cons x xs=>
    exfalso;have hm:x∈AeG .any l.toArray listed:=by rw[hr];simp
    obtain⟨h1,o,ho,_⟩:=mem_ready.1 hm;have hx:x<l.length:=by simpa using (Adg.1 ho).1
    have h2:=hon x hx;have hx' :x<listed.size:=h2.lt;unfold On at h2;simp[hx']at h1 h2;rw[h1]at h2;cases h2
  exact⟨hr,hQ _ _ _ hon h⟩
 | succ fuel ih=>
  intro listed a w hf h;refine⟨fun hr=>hQ _ _ _ (full listed a w h hr) h,fun i hi=> ?_⟩;obtain⟨h1,o,ho,hall⟩:=mem_ready.1 hi;have ho' :l[i]? =some o:=by simpa using ho
  have hil:i<listed.size:=by rw[h.size];exact(AcW.1 ho').1
  have hno:¬On listed i:=by
   unfold On;simp[hil]at h1 ⊢;exact h1
  have hst:=hs.get l 0 i o ho';rw[Aec]at hst;refine h.step g hkl hC hE hΦ hRr ho' hno (fun e he hb=>hall e he hb) hst fun a' w' h' =>ih _ _ _ ?_ h';rw[Afs];have:=GB listed.toList i (by
   simp[hil]at h1;simp[hil,h1])
  omega
def slotsW(l:List AcM):List Tmp:=(l.filterMap (·.dst)).eraseDups
def Dz(T:Array Acr)(ds:List Tmp)(u:Tmp->Acr):Array Acr:=ds.foldl (fun T d=>T.setIfInBounds d (u d)) T
theorem EW(u:Tmp->Acr):∀(ds:List Tmp) (T:Array Acr),(Dz T ds u).size=T.size
 | [],T=>rfl
 | d :: ds,T=>by unfold Dz;rw[Afy];exact(EW u ds _).trans (by simp)
theorem Ij(u:Tmp->Acr)(t:Tmp):∀(ds:List Tmp) (T:Array Acr),t<T.size->(Dz T ds u).getD t undef=if t∈ds then u t else T.getD t undef
 | [],T,_=>by simp[Dz]
 | d :: ds,T,ht=>by
  have ih:=Ij u t ds (T.setIfInBounds d (u d)) (by simpa using ht);unfold Dz at ih ⊢;rw[Afy,ih];by_cases h1:t∈ds
  ·simp[h1]
  ·by_cases h2:t=d
   ·subst h2;simp[h1,ht]
   ·simp[h1,h2,Aew (Ne.symm h2)]
def Dg(l:List AcM)(kill:Nat->List Nat)(Φ:Nat->BO)(u:Tmp->Acr)(w:Acs):List Tmp->Prop
 | []=>True
 | d :: ds=>(match DH l d l.length with | some k=>if(AeE l.length).all (fun n=> !(kill n).contains k)=true then Φ k (u d) w else True | none=>True)/\Dg l kill Φ u w ds
theorem Jr{u:Tmp->Acr}{w:Acs}(h:∀d k,DH l d l.length=some k->(AeE l.length).all (fun n=> !(kill n).contains k)=true->Φ k (u d) w):∀ds,Dg l kill Φ u w ds
 | []=>trivial
 | d :: ds=>⟨by split;(split;(exact h d _ ‹_› ‹_›);trivial);trivial,Jr h ds⟩
theorem Xa(T:Array Acr)(df:List Deferred){Q:Afk->Act->Acs->Prop}(ds:List Tmp)(hds:slotsW l=ds) 
  (hQ:∀(u:Tmp->Acr) listed w',(∀i,i<l.length->On listed i)->E listed w' ->Dg l kill Φ u w' ds->Q .normal { tmps:=Dz T ds u,defers:=df } w'):
  ∀listed a' w',(∀i,i<l.length->On listed i)->Inv l kill C E Φ { tmps:=T,defers:=df } listed a' w' ->Q .normal a' w' :=by
 intro listed a' w' hon h;have hw:∀d k,DH l d l.length=some k->(AeE l.length).all (fun n=> !(kill n).contains k)=true->Φ k (a'.tmps.getD d undef) w' :=fun d k hk hall=>by
  obtain⟨h1,⟨o,ho,hd⟩,h3⟩:=GM _ hk;refine h.new d k o ho hd (hon k h1) (fun k' o' hkk ho' hd' _=>h3 k' o' hkk (AcW.1 ho').1 ho' hd') (fun n hn hkn=> ?_);have hnl:n<l.length:=by have:=hn.lt;rw[h.size]at this;exact this
  have:=Ads.1 hall n (by simpa using hnl);simp at this;exact this hkn
 have hq:=hQ (fun t=>a'.tmps.getD t undef) listed w' hon h.ecl (Jr hw ds);have he:a' = { tmps:=Dz T ds (fun t=>a'.tmps.getD t undef),defers:=df } :=by
  have h1:a'.tmps=Dz T ds (fun t=>a'.tmps.getD t undef):=by
   apply Array.ext (by rw[EW];exact h.tmps)
   intro t ht1 ht2;have ht3:t<T.size:=by rw[EW]at ht2;exact ht2
   have hx:=Ij (fun t=>a'.tmps.getD t undef) t ds T ht3;have a:∀(A:Array Acr) (ht:t<A.size),A.getD t undef=A[t]:=fun A ht=>by
    rw[Adi,Array.getElem?_eq_getElem ht,Option.getD_some]
   rw[a _ ht2]at hx;by_cases hn:t∈ds
   ·rw[if_pos hn,a _ ht1]at hx;exact hx.symm
   ·rw[if_neg hn,a _ ht3]at hx;have ho:a'.tmps.getD t undef=T.getD t undef:=h.old t fun k o ho hd _=>hn (by
     rw[<-hds];unfold slotsW;rw[List.mem_eraseDups,Af9];exact⟨o,List.mem_of_getElem? ho,hd⟩)
    rw[a _ ht1,a _ ht3]at ho;exact ho.trans hx.symm
  have h2:=h.defers;cases a';simp only at h1 h2;subst h2;rw[<-h1]
 rw[he];exact hq
theorem Ll(kill:Nat->List Nat)(C:Nat->Acs->Prop)(E:Array Bool->Acs->Prop)(R:Nat->Acs->Acs->Prop)(Φ:Nat->BO){id:Nat}{Q:Afk->Act->Acs->Prop}{w:Acs}(hm:P.follows .mixedOrders=true)(T:Array Acr)(df:List Deferred) 
  (hg:DR l T.size=true) (hkl:FW l kill=true) (ds:List Tmp) (hds:slotsW l=ds) (hC:∀n m,n<l.length->m<l.length->n≠m->((AZ l []).getD n 0).testBit m=false->∀w w',C m w->R n w w' ->C m w') (hE:∀n listed w w',n<l.length->listed.size=l.length->¬On listed n->(∀i k,On listed i\/i=n->((AZ l []).getD i 0).testBit k=true->On listed k)->E listed w->R n w w' ->E (listed.setIfInBounds n true) w') (hΦ:∀n i,n<l.length->i<l.length->i∉kill n->i≠n->((AZ l []).getD i 0).testBit n=false->∀v w w',Φ i v w->R n w w' ->Φ i v w') (hRr:∀n o w,l[n]? =some o->o.guard.isSome=true->R n w w)
  (h0:∀n,n<l.length->C n { w with drawn:=w.drawn+1 }) (h1:E (Aee l.toArray.size false) { w with drawn:=w.drawn+1 })
  (hs:StepsOk P l C R Φ T 0 l)
  (hQ:∀(u:Tmp->Acr) listed w',(∀i,i<l.length->On listed i)->E listed w' ->Dg l kill Φ u w' ds->Q .normal { tmps:=Dz T ds u,defers:=df } w'):(Code.region id l.toArray true).wp P Q { tmps:=T,defers:=df } w:=by
 have g:=I7 hg;refine wp_region_any hm (W9 (a0:= { tmps:=T,defers:=df }) g hkl hC hE hΦ hRr hs (fun listed a' w' hon h=> ?_) _ _ _ _ (by simp) ?_)
 ·exact Xa T df ds hds hQ listed a' w' hon h
 ·have hno:∀i,¬On (Aee l.toArray.size false) i:=fun i h=>by
   unfold On at h;rw[Adi,Aex]at h;split at h <;> simp at h
  exact⟨Array.size_replicate,fun i o _ h=>absurd h (hno i),rfl,rfl,fun n hn _=>h0 n hn,h1,fun t _=>rfl,fun t k o _ _ h=>absurd h (hno k)⟩
theorem GC(kill:Nat->List Nat)(C:Acs->Prop)(R:Nat->Acs->Acs->Prop)(Φ:Nat->BO){id:Nat}{Q:Afk->Act->Acs->Prop}{w:Acs}(hm:P.follows .mixedOrders=true)(T:Array Acr)(df:List Deferred) 
  (hg:DR l T.size=true) (hkl:FW l kill=true) (ds:List Tmp) (hds:slotsW l=ds) (hC:∀n w w',C w->R n w w' ->C w') (hΦ:∀n i,n<l.length->i<l.length->i∉kill n->i≠n->((AZ l []).getD i 0).testBit n=false->∀v w w',Φ i v w->R n w w' ->Φ i v w') (hRr:∀n o w,l[n]? =some o->o.guard.isSome=true->R n w w) (h0:C { w with drawn:=w.drawn+1 })
  (hs:StepsOk P l (fun _=>C) R Φ T 0 l)
  (hQ:∀(u:Tmp->Acr) w',C w' ->Dg l kill Φ u w' ds->Q .normal { tmps:=Dz T ds u,defers:=df } w'):(Code.region id l.toArray true).wp P Q { tmps:=T,defers:=df } w:=
 Ll kill (fun _=>C) (fun _=>C) R Φ hm T df hg hkl ds hds (fun n _ _ _ _ _=>hC n) (fun n _ w w' _ _ _ _=>hC n w w') hΦ hRr (fun _ _=>h0) h0 hs (fun u _ w' _=>hQ u w')
theorem Gb{C:Nat->Acs->Prop}{R:Nat->Acs->Acs->Prop}{T:Array Acr}{n:Nat}{o:AcM}(hg:o.guard=none) 
  (h:∀ρ w,C n w->(∀t∈o.looksAt l.toArray,Ga l Φ T n t (ρ t) w)->Yk P (fun v w' =>R n w w' /\Φ n v w') ((execOp (Ab ρ) o).run P w)):Kj P l C R Φ T n o:=by
 intro ρ w hC hl;have:AY l o ρ=true:=by unfold AY;rw[hg]
 rw[if_pos this];exact h ρ w hC hl
theorem Yk.value{K:Acr->Acs->Prop}{r:Ag9 Next}{v:Acr}{w' :Acs}(hr:r = .ok (.value v) w')(h:K v w'):Yk P K r:=by rw[hr];exact h
abbrev AbK:=@Yk.value
theorem Yk.enter{K:Acr->Acs->Prop}{r:Ag9 Next}{f:Aed}{args:Array Acr}{w' :Acs}(hr:r = .ok (.enter f args) w')(h:Calls P f args w' fun e w'' =>∃v,e = .returned v/\K v w''):Yk P K r:=by rw[hr];exact h
end
def Plain(P:AcN)(f:Aed):Prop:=∀xs w,(callFunc f xs).run P w = .ok (.enter f xs) w
theorem Ik{P:AcN}{f:Aed}(hp:Plain P f)(ρ:AcD->Acr)(args:List AcD)(at_:Array Acz)(dst:Option Tmp)(ty:Acz)(pos:String)(af:Array Adk)(gd:Option (Nat × Bool))(w:Acs) 
  (hρ:ρ (.func f) = .func (.func f) #[] #[]):(execOp ρ ⟨dst, .call ⟨.value (.func f),args.toArray,at_⟩,ty,pos,af,gd⟩).run P w = .ok (.enter f (args.map ρ).toArray) w:=by
 simp[execOp,resolve,invoke,Deferred.ofValue,hρ,hp _ w]
theorem Yk.call{P:AcN}{K:Acr->Acs->Prop}{f:Aed}(hp:Plain P f){ρ:Tmp->Acr}{args:List AcD}{at_:Array Acz}{dst:Option Tmp}{ty:Acz}{pos:String}{af:Array Adk}{gd:Option (Nat × Bool)}{w:Acs} 
  (h:Calls P f (args.map (Ab ρ)).toArray w fun e w'' =>∃v,e = .returned v/\K v w''):Yk P K ((execOp (Ab ρ) ⟨dst, .call ⟨.value (.func f),args.toArray,at_⟩,ty,pos,af,gd⟩).run P w):=
 Yk.enter (Ik hp (Ab ρ) args at_ dst ty pos af gd w rfl) h
def Stab(R:Acs->Acs->Prop)(φ:BO):Prop:=∀v w w',φ v w->R w w' ->φ v w'
theorem Y7{R:Acs->Acs->Prop}(v:Acr):Stab R (Is v):=fun _ _ _ h _=>h
theorem Stab.any{R:Acs->Acs->Prop}:Stab R (fun _ _=>True):=fun _ _ _ _ _=>trivial
def AllStab(R:Acs->Acs->Prop):List BO->Prop
 | []=>True
 | φ :: r=>Stab R φ/\AllStab R r
theorem YH{R:Acs->Acs->Prop}{a b:Acr}{Φs:List BO}(h:AllStab R Φs):AllStab R (Is a :: Is b :: Φs):=⟨Y7 _,Y7 _,h⟩
theorem YI{R:Acs->Acs->Prop}{a b c e:Acr}{Φs:List BO}(h:AllStab R Φs):AllStab R (Is a :: Is b :: Is c :: Is e :: Φs):=⟨Y7 _,Y7 _,Y7 _,Y7 _,h⟩
theorem Yu{R:Acs->Acs->Prop}{a b c e f:Acr}{Φs:List BO}(h:AllStab R Φs):AllStab R (Is a :: Is b :: Is c :: Is e :: Is f :: Φs):=⟨Y7 _,Y7 _,Y7 _,Y7 _,Y7 _,h⟩
theorem YJ{R:Acs->Acs->Prop}{a b c e f g:Acr}{Φs:List BO}(h:AllStab R Φs):AllStab R (Is a :: Is b :: Is c :: Is e :: Is f :: Is g :: Φs):=⟨Y7 _,Y7 _,Y7 _,Y7 _,Y7 _,Y7 _,h⟩
theorem YK{R:Acs->Acs->Prop}{a b c e f g i:Acr}{Φs:List BO}(h:AllStab R Φs):AllStab R (Is a :: Is b :: Is c :: Is e :: Is f :: Is g :: Is i :: Φs):=⟨Y7 _,Y7 _,Y7 _,Y7 _,Y7 _,Y7 _,Y7 _,h⟩
theorem YA{R:Acs->Acs->Prop}{a b c e f g i j k l:Acr}{Φs:List BO}(h:AllStab R Φs):AllStab R (Is a :: Is b :: Is c :: Is e :: Is f :: Is g :: Is i :: Is j :: Is k :: Is l :: Φs):=⟨Y7 _,Y7 _,Y7 _,Y7 _,Y7 _,Y7 _,Y7 _,Y7 _,Y7 _,Y7 _,h⟩
theorem TO{R:Acs->Acs->Prop}{a b c e f g i j k l m n:Acr}{Φs:List BO}(h:AllStab R Φs):AllStab R (Is a :: Is b :: Is c :: Is e :: Is f :: Is g :: Is i :: Is j :: Is k :: Is l :: Is m :: Is n :: Φs):=⟨Y7 _,Y7 _,Y7 _,Y7 _,Y7 _,Y7 _,Y7 _,Y7 _,Y7 _,Y7 _,Y7 _,Y7 _,h⟩
theorem AllStab.get{R:Acs->Acs->Prop}:∀(Φs:List BO),AllStab R Φs->∀i,Stab R (Φs.getD i (fun _ _=>True))
 | [],_,i=>by simpa using Stab.any
 | φ :: r,h,0=>h.1
 | φ :: r,h,i+1=>by simpa using AllStab.get r h.2 i
def EX(Φs:List BO)(i:Nat):BO:=Φs.getD i (fun _ _=>True)
def Ext(w w' :Acs):Prop:=Below w.heap.size w w'
theorem Ext.refl(w:Acs):Ext w w:=Adp _ _
abbrev AbE:=@Ext.refl
theorem Ext.trans{a b c:Acs}(h:Ext a b)(k:Ext b c):Ext a c:=Below.trans h (k.mono h.size)

theorem MR{P:AcN}{l:List AcM}(Φs:List BO){id:Nat}{Q:Afk->Act->Acs->Prop}{w:Acs}(hm:P.follows .mixedOrders=true)(T:Array Acr)(df:List Deferred) 
  (hg:DR l T.size=true) (ds:List Tmp) (hds:slotsW l=ds) (hst:AllStab Ext Φs) (hs:StepsOk P l (fun _=>Ext w) (fun _=>Ext) (EX Φs) T 0 l)
  (hQ:∀(u:Tmp->Acr) w',Ext w w' ->Dg l (fun _=> []) (EX Φs) u w' ds->Q .normal { tmps:=Dz T ds u,defers:=df } w'):(Code.region id l.toArray true).wp P Q { tmps:=T,defers:=df } w:=
 GC (fun _=> []) (Ext w) (fun _=>Ext) (EX Φs) hm T df hg
  (by unfold FW;simp) ds hds (fun _ _ _ h k=>h.trans k) (fun _ i _ _ _ _ _=>hst.get Φs i) (fun _ _ w _ _=>AbE w) (Adp _ _).drew hs hQ
theorem Zt{n i:Nat}:¬On (Aee n false) i:=fun h=>by
 unfold On at h;rw[Adi,Aex]at h;split at h <;> simp at h
theorem Lm{P:AcN}{l:List AcM}(ks:List Nat)(kill:Nat->List Nat)(C:Acs->Prop)(Rk:Acs->Acs->Prop)(Φs:List BO){id:Nat}{Q:Afk->Act->Acs->Prop}{w:Acs}(hm:P.follows .mixedOrders=true)(T:Array Acr)(df:List Deferred) 
  (hg:DR l T.size=true) (hkl:FW l kill=true) (ds:List Tmp) (hds:slotsW l=ds) (hC:∀w w',C w->Ext w w' ->C w') (hCk:∀w w',C w->Rk w w' ->C w') (hRk:∀w,Rk w w) (h0:C w.drew) (hst:AllStab Ext Φs)
  (hsk:∀n i,n∈ks->i<l.length->i∉kill n->i≠n->((AZ l []).getD i 0).testBit n=false->Stab Rk (EX Φs i))
  (hs:StepsOk P l (fun _=>C) (fun n=>if n∈ks then Rk else Ext) (EX Φs) T 0 l)
  (hQ:∀(u:Tmp->Acr) w',C w' ->Dg l kill (EX Φs) u w' ds->Q .normal { tmps:=Dz T ds u,defers:=df } w'):(Code.region id l.toArray true).wp P Q { tmps:=T,defers:=df } w:=by
 refine GC kill C (fun n=>if n∈ks then Rk else Ext) (EX Φs) hm T df hg hkl ds hds (fun n w w' h k=> ?_) (fun n i _ hi hk hne hb=> ?_) (fun n _ w _ _=> ?_) h0 hs hQ
 ·by_cases hn:n∈ks
  ·rw[if_pos hn]at k;exact hCk _ _ h k
  ·rw[if_neg hn]at k;exact hC _ _ h k
 ·by_cases hn:n∈ks
  ·rw[if_pos hn];exact hsk n i hn hi hk hne hb
  ·rw[if_neg hn];exact hst.get Φs i
 ·by_cases hn:n∈ks
  ·rw[if_pos hn];exact hRk w
  ·rw[if_neg hn];exact AbE w
variable {P : AcN}
theorem Ng{w:Acs}{src dst e:Acz}(hs:P.underlying src=some (.slice e))(he:P.underlying e=some (.int .u8))(hd:P.underlying dst=some .string){v:Acr}{l:AhU}(h:RB w v l):
  (convert src dst v).run P w = .ok (.string ⟨l.toArray⟩) w:=by
 obtain⟨h1,ao,cap,rfl,h2,h3,h4,h5⟩:=h;cases ao with
 | none=>
  obtain⟨h6,rfl⟩:=h4 rfl;have:l= []:=Adn h6;subst this;rw[run_convert_bytes_string w src dst e _ _ _ hs he hd];simp[Conv.bytesToString,AcE];rfl
 | some a=>exact run_convert_bytes_back w src dst e a cap l hs he hd (fun j hj=>h5 a rfl j _ (by simp[Acv,hj]))
theorem OP{ops:Array AcM}{rest:List AcM}{o:AcM}{a:Act}{w:Acs}{Q:Afk->Act->Acs->Prop}(hgd:o.guard=none)(src dst:Acz)(x:AcD)(ho:o.op = .convert src dst x) 
  {e:Acz} (hs:P.underlying src=some (.slice e)) (he:P.underlying e=some (.int .u8)) (hd:P.underlying dst=some .string) (v:Acr) (l:AhU) (hx:a.eval x=v) (h:RB w v l)
  (hK:wpList P ops Q rest (a.put o.dst (.string ⟨l.toArray⟩)) w):wpList P ops Q (o :: rest) a w:=
 wpList_plain hgd fun K hK' =>by
  have hr:=Ng (P:=P) hs he hd h;unfold AeL execOp;simp only[ho,hx,hr,AcC,AcE,AcB];exact hK' _ _ hK
theorem Nh(a b:AhU):(⟨a.toArray⟩:ByteArray)++⟨b.toArray⟩=⟨(a++b).toArray⟩:=by
 apply ByteArray.ext
 rw[ByteArray.data_append];simp
theorem Aba{K:Acr->Acs->Prop}{ρ:Tmp->Acr}{t ty2:Acz}{x y:AcD}{d:Option Tmp}{ty:Acz}{pos:String}{af:Array Adk}{gd:Option (Nat × Bool)}{w:Acs}{l1 l2:AhU} 
  (hx:Ab ρ x = .string ⟨l1.toArray⟩) (hy:Ab ρ y = .string ⟨l2.toArray⟩) (hb:l1.length+l2.length<=9223372036854775807) (hk:K (.string ⟨(l1++l2).toArray⟩) w):Yk P K ((execOp (Ab ρ) ⟨d, .binOp .add t x y ty2,ty,pos,af,gd⟩).run P w):=by
 refine AbK (v:= .string ⟨(l1++l2).toArray⟩) (w' :=w) ?_ hk;have hr:=run_string_add_sum (P:=P) (w:=w) ⟨l1.toArray⟩ ⟨l2.toArray⟩ (show l1.toArray.size+l2.toArray.size<=_ from hb);rw[Nh]at hr;simp[execOp,hx,hy,eqGuard,binOp,hr]
theorem Yk.append{K:Acr->Acs->Prop}{ρ:Tmp->Acr}(s x:AcD){t tx:Acz}{d:Option Tmp}{ty:Acz}{pos:String}{af:Array Adk}{gd:Option (Nat × Bool)}{w:Acs} 
  (base:Nat) (e:Acz) (z:Acr) (size bytes:Nat) (ht:P.underlying t=some (.slice e)) (hi:(P.info? e).map (fun i=>(i.zero,i.size,i.bytes))=some (some z,size,bytes)) (hzs:z.cells.size=size)
  (n:Nat) (xs:List Acr) (hown:w.ownsRow base e size (Ab ρ s) n xs) (m:Nat) (news:List Acr) (hsrc:Src P size tx (Ab ρ x) m news w)
  (h63:n+m<=maxLen) (hbytes:(n+m)*bytes<=140737488355328) (hbase:base<=w.heap.size)
  (h:∀v' w',w'.ownsRow base e size v' (n+m) (xs++news)->Grew w w' (Ab ρ s) v' ->K v' w'):
  Yk P K ((execOp (Ab ρ) ⟨d, .call ⟨.builtin .append,[s,x].toArray,[t,tx].toArray⟩,ty,pos,af,gd⟩).run P w):=by
 obtain⟨i,hi,hz,hsize,hby⟩:=info_parts hi;obtain⟨v',w',hr,h2,h3⟩:=Fd (P:=P) w base t tx ty e i z size bytes ht hi hz hsize hby hzs (Ab ρ s) n xs hown (Ab ρ x) m news hsrc h63 hbytes hbase;refine AbK (v:=v') (w' :=w') ?_ (h v' w' h2 h3);unfold execOp;simp only[resolve,invoke,builtin,AcC,AcE,AcB,AcJ,AcL,AcR,hr]
theorem Stab.rb(l:AhU):Stab Ext (fun x w=>RB w x l):=fun _ _ _ h k=>h.keep k
theorem Ext.grown{w w' :Acs}(h:Ext w w'):w.grownBy w' none:=⟨h.os,h.tape,h.output,h.size,fun k hk _=>h.block k hk⟩
theorem Abb{w w' :Acs}(h:w.grownBy w' none):Ext w w' :=(Adp _ _).grown h (Acy _) (fun k hk=>by cases hk)
theorem Stab.own(base:Nat)(e:Acz)(size:Nat)(n:Nat)(xs:List Acr):Stab Ext (fun x w=>w.ownsRow base e size x n xs):=fun v _ _ h k=>h.kept k.grown (by cases v.ownBlock <;> simp)
abbrev AbW:=@Stab.own
theorem NewB.ext{e:Acz}{w w' :Acs}{v:Acr}{l:AhU}(h:NewB e w w' v l):Ext w w' :=h.below

theorem ZG{w w' :Acs}(h:Ext w w'){b:Nat}{o:Obj}(hb:w.heap[b]? =some o):w'.heap[b]? =some o:=
 (h.block b (Adg.1 hb).1).trans hb
theorem eb{w w' :Acs}(h:Ext w w'){b:Nat}{o:Obj}(hb:w.heap[b]? =some o):w'.heap[b]? =some o:=ZG h hb
theorem Abo{K:Acr->Acs->Prop}{ρ:Tmp->Acr}(s x:AcD){dT sT elem:Acz}{d:Option Tmp}{ty:Acz}{pos:String}{af:Array Adk}{gd:Option (Nat × Bool)}{w:Acs} 
  (hu:P.underlying dT=some (.slice elem)) (hsz:(P.info? elem).map (·.size)=some 1) {g o dLen dCap:Nat} (hs:Ab ρ s = .slice (some ⟨g,o,none⟩) dLen dCap) {l:AhU} (hx:RB w (Ab ρ x) l)
  {cur:Array Acr} {t:Acz} (hg:w.heap[g]? =some (.cells cur t (0,0))) (hfit:o+Ae5 l.length dLen<=cur.size)
  (h:K (goInt (Ae5 l.length dLen)) (w.setRow g (cur.toList.take o++Acv (l.take dLen)++cur.toList.drop (o+Ae5 l.length dLen)).toArray)):
  Yk P K ((execOp (Ab ρ) ⟨d, .call ⟨.builtin .copy,[s,x].toArray,[dT,sT].toArray⟩,ty,pos,af,gd⟩).run P w):=by
 obtain⟨h1,ao,cap,hv,h2,h3,h4,h5⟩:=hx;have hlen:(Acv (l.take dLen)).length=Ae5 l.length dLen:=by rw[AcH,AcS];exact Nat.min_comm _ _
 refine AbK (v:=goInt (Ae5 l.length dLen)) (w' :=w.setRow g (cur.toList.take o++Acv (l.take dLen)++cur.toList.drop (o+Ae5 l.length dLen)).toArray) ?_ h;have hrun:(Builtin.copy_ #[dT,sT] ty #[.slice (some ⟨g,o,none⟩) dLen dCap, .slice ao l.length cap]).run P w = .ok (goInt (Ae5 l.length dLen)) (w.setRow g (cur.toList.take o++Acv (l.take dLen)++cur.toList.drop (o+Ae5 l.length dLen)).toArray):=by
  cases ao with
  | none=>
   obtain⟨h6,rfl⟩:=h4 rfl;have:l= []:=Adn h6;subst this;have hr:=run_copy_nil (P:=P) w dT sT ty elem ⟨g,o,none⟩ dLen dCap hu (by rw[hsz];rfl);have e:(cur.toList.take o++Acv ([].take dLen)++cur.toList.drop (o+Ae5 ([]:AhU).length dLen)).toArray=cur:=by
    simp[Acv]
   rw[e,setRow_self w g cur t (0,0) hg]
   simpa using hr
  | some a=>
   have hr:=run_copy_row (P:=P) w dT sT ty elem g o dLen dCap a l.length cap cur t (Acv (l.take dLen)) hu hsz hg hlen (fun j v hj=>h5 a rfl j v (by
    have hj' :=hj;simp only[Acv,Agc,Aes]at hj';split at hj'
    ·exact hj'
    ·cases hj')) (by rw[hlen];exact hfit) (Ax _)
   rw[hlen]at hr;exact hr
 unfold execOp;simp only[resolve,invoke,builtin,AcC,AcE,AcB,AcJ,AcL,AcR,hs,hv,hrun]
theorem Il{ops:Array AcM}{rest:List AcM}{o:AcM}{a:Act}{w:Acs}{Q:Afk->Act->Acs->Prop}(hgd:o.guard=none)(v:Acr)(w' :Acs)(hr:(execOp a.eval o).run P w = .ok (.value v) w') 
  (h:wpList P ops Q rest (a.put o.dst v) w'):wpList P ops Q (o :: rest) a w:=
 wpList_plain hgd fun K hK=>by
  unfold AeL;rw[hr];exact hK _ _ h
/-! ### Whole arrays and structs in blocks of their own -/
theorem GD(w:Acs)(g:Nat)(ty:Acz)(cells cur:Array Acr)(t:Acz)(hg:w.heap[g]? =some (.cells cur t (0,0)))(hs:cells.size=cur.size)(hi:(P.info? ty).map (·.size)=some cells.size)(h1:∀v∈cells.toList,v.oneCell' =true):
  (Aft ty (.pointer (some ⟨g,0,none⟩)) (.agg cells)).run P w = .ok () (w.setRow g cells):=by
 have hst:=run_storeCells_at P g 0 t cells.toList 0 cur w hg (by simp[hs]) h1;have e:(cur.toList.take (0+0)++cells.toList++cur.toList.drop (0+0+cells.toList.length)).toArray=cells:=by
  simp;rw[List.drop_of_length_le (by simp[hs])];simp
 rw[e]at hst;cases hq:P.info? ty with
 | none=>simp[hq]at hi
 | some i=>
  have hs:cells.size=i.size:=by simp[hq]at hi;omega
  simp[Aft,AeZ,storeVar,sizeOf,typeInfo,hq,Value.cells,hs,hst]
theorem JZ{ops:Array AcM}{rest:List AcM}{o:AcM}{a:Act}{w:Acs}{Q:Afk->Act->Acs->Prop}(hgd:o.guard=none)(ty:Acz)(x y:AcD)(ho:o.op = .store ty x y) 
  (g:Nat) (hx:a.eval x = .pointer (some ⟨g,0,none⟩)) (cells cur:Array Acr) (t:Acz) (hy:a.eval y = .agg cells) (hg:w.heap[g]? =some (.cells cur t (0,0))) (hs:cells.size=cur.size) (hi:(P.info? ty).map (·.size)=some cells.size) (h1:∀v∈cells.toList,v.oneCell' =true)
  (h:wpList P ops Q rest (a.put o.dst undef) (w.setRow g cells)):wpList P ops Q (o :: rest) a w:=
 wpList_plain hgd fun K hK=>by
  have hr:=GD (P:=P) w g ty cells cur t hg hs hi h1;unfold AeL execOp;simp only[ho,hx,hy,hr,AcC,AcE,AcB];exact hK _ _ h
theorem FQ{ops:Array AcM}{rest:List AcM}{o:AcM}{a:Act}{w:Acs}{Q:Afk->Act->Acs->Prop}(hgd:o.guard=none)(ty:Acz)(x y:AcD)(ho:o.op = .store ty x y) 
  (g:Nat) (hx:a.eval x = .pointer (some ⟨g,0,none⟩)) (cells:Array Acr) (t:Acz) (hy:a.eval y = .agg cells) (hg:w.heap[g]? =some (.cells cells t (0,0))) (hi:(P.info? ty).map (·.size)=some cells.size) (h1:∀v∈cells.toList,v.oneCell' =true)
  (h:wpList P ops Q rest (a.put o.dst undef) w):wpList P ops Q (o :: rest) a w:=
 JZ hgd ty x y ho g hx cells cells t hy hg rfl hi h1 (by rw[setRow_self w g cells t (0,0) hg];exact h)
theorem Ic{fn:Func}{p q r:Tmp}{ty:Acz}(h:fn.results = #[.cell p ty, .tmp q, .tmp r])(tmps:Array Acr)(w:Acs)(g:Nat)(t:Acz)(cs:Array Acr)(fr:Nat × Nat)(d:TypeDesc) 
  (hp:tmps.getD p undef = .pointer (some ⟨g,0,none⟩)) (hg:w.heap[g]? =some (.cells cs t fr))
  (hu:P.underlying ty=some d) (hd:(match d with | .struct _ | .array _ _=>true | _=>false)=true) (hi:(P.info? ty).map (·.size)=some cs.size):
  (results fn tmps).run P w = .ok (.tuple #[.agg cs,tmps.getD q undef,tmps.getD r undef]) w:=by
 have hp' :tmps[p]?.getD undef = .pointer (some ⟨g,0,none⟩):=by simpa using hp
 simp[results,h,hp',asAddr,run_loadVar_row w g t ty cs fr d hg hu hd hi]
/-! ### Slices of slices -/
theorem Gc(a:Addr)(m n:Nat):(a.add m).add n=a.add (m+n):=by
 cases a with
 | mk b o sp=>
  unfold AeO;split <;> split <;> simp_all
  all_goals (try omega)
theorem Ct{t e:Acz}{size:Nat}(ht:P.underlying t=some (.slice e))(he:∀w' :Acs,(sizeOf e).run P w' = .ok size w'){w:Acs}{v:Acr}{n:Nat}{xs:List Acr}(hr:Reads w size v n xs)(lo hi:Option Acr)(l h:Nat)(hlh:l<=h)(hn:h<=n) 
  (hlo:lo=none/\l=0\/∃k,lo=some (.int k l)) (hhi:hi=none/\h=n\/∃k,hi=some (.int k h)):
  ∃ao c,((AeP t v lo hi none).run P w = .ok (.slice ao (h-l) c) w/\(Value.slice ao (h-l) c).ownBlock=v.ownBlock)/\Reads w size (.slice ao (h-l) c) (h-l) ((xs.drop (l*size)).take ((h-l)*size)):=by
 obtain⟨h1,ao,cap,rfl,h2,h3,h4,h5⟩:=hr;have hE:P.elem t=e:=by simp[Program.elem,ht]
 have ht' :P.underlying t=some (.slice (P.elem t)):=by rw[hE];exact ht
 refine⟨if cap=l then ao else ao.map (·.add (l*size)),cap-l,⟨?_,?_⟩,?_,_,_,rfl,by omega,by omega,?_,?_⟩
 ·rw[run_sliceAt_slice (P:=P) w t _ _ _ _ ht'];have hl' :(l:Int)<=(h:Int):=by omega
  have hh' :(h:Int)<=(cap:Int):=by omega
  have hn' :(l:Int)<=(n:Int):=by omega
  rcases hlo with ⟨rfl,rfl⟩ | ⟨k,rfl⟩ <;> rcases hhi with ⟨rfl,rfl⟩ | ⟨k',rfl⟩
  ·rw[run_slice_all (P:=P) w t ao h cap ht',hE,he];simp[Adj,sliced]
  ·rw[run_slice_h (P:=P) w t ao n cap ht' k' h (by omega) hh',hE,he];simp[Adj,sliced]
  ·rw[run_slice_l (P:=P) w t ao h cap ht' k l (by omega) hl',hE,he];simp[Adj,sliced]
  ·rw[run_slice_lh (P:=P) w t ao n cap ht' k k' l h (by omega) hl' hh',hE,he];simp[Adj,sliced]
 ·cases ao with
  | none=>simp[Adc]
  | some x=>
   split
   ·rfl
   ·simp only[AdP,Adc,Option.some.injEq];unfold AeO;split <;> rfl
 ·rw[AcS,AcU,h1];have:(h-l)*size<=n*size-l*size:=by rw[<-Nat.sub_mul];exact AeS _ (by omega)
  omega
 ·intro hnone;have:ao=none:=by
   cases ao with
   | none=>rfl
   | some x=>split at hnone <;> simp at hnone
  obtain⟨h6,h7⟩:=h4 this;omega
 ·intro a ha j u hu;have hj:j<((xs.drop (l*size)).take ((h-l)*size)).length:=(AcW.1 hu).1;have hj2:j<(h-l)*size:=by rw[AcS]at hj;omega
  have hhl:h-l≠0:=fun e=>by rw[e]at hj2;simp at hj2
  rw[if_neg (by omega)]at ha;cases ao with
  | none=>simp at ha
  | some x=>
   simp at ha;subst ha;rw[Gc];refine h5 x rfl _ _ ?_;rw[Aes,if_pos hj2,AeI]at hu;exact hu
theorem Jo{t e:Acz}{size:Nat}(ht:P.underlying t=some (.slice e))(he:∀w' :Acs,(sizeOf e).run P w' = .ok size w'){w:Acs}{v:Acr}{n:Nat}{xs:List Acr}(hr:Reads w size v n xs)(lo hi:Option Acr)(l h:Nat)(hlh:l<=h)(hn:h<=n) 
  (hlo:lo=none/\l=0\/∃k,lo=some (.int k l)) (hhi:hi=none/\h=n\/∃k,hi=some (.int k h)):
  ∃ao c,(AeP t v lo hi none).run P w = .ok (.slice ao (h-l) c) w/\Reads w size (.slice ao (h-l) c) (h-l) ((xs.drop (l*size)).take ((h-l)*size)):=by
 obtain⟨ao,c,h1,h2⟩:=Ct ht he hr lo hi l h hlh hn hlo hhi;exact⟨ao,c,h1.1,h2⟩
theorem Z3{w:Acs}{v:Acr}{xs:AhU}{l h:Nat}(hn:h<=xs.length)(hR:Reads w 1 v (h-l) (((Acv xs).drop (l*1)).take ((h-l)*1))):RB w v ((xs.drop l).take (h-l)):=by
 have a:((xs.drop l).take (h-l)).length=h-l:=by rw[AcS,AcU];omega
 unfold RB;rw[a];have b:Acv ((xs.drop l).take (h-l))=((Acv xs).drop (l*1)).take ((h-l)*1):=by
  simp[Acv,Agc,Ahk]
 rw[b];exact hR
theorem RB.kept{w w' :Acs}{v:Acr}{l:AhU}(h:RB w v l){row:Option Nat}(hg:w.grownBy w' row)(hv:v.ownBlock=none\/v.ownBlock≠row):RB w' v l:=by
 obtain⟨h1,ao,cap,rfl,h2,h3,h4,h5⟩:=h;refine⟨h1,ao,cap,rfl,h2,h3,h4,fun a ha j u hu=> ?_⟩;have hc:=h5 a ha j u hu;subst ha;have hlt:=AdE w _ hc;have hbl:(a.add j).block=a.block:=by unfold AeO;split <;> rfl
 have hne:(some a.block)≠row:=by
  rcases hv with hv | hv
  ·cases hv
  ·exact hv
 rw[hbl]at hlt;rw[World.cell?_of_block (w:=w) (by rw[hbl];exact hg.block a.block hlt hne)];exact hc
theorem Js{t e:Acz}(ht:P.underlying t=some (.slice e))(he:∀w' :Acs,(sizeOf e).run P w' = .ok 1 w'){w:Acs}{v:Acr}{xs:AhU}(hr:RB w v xs)(lo hi:Option Acr)(l h:Nat)(hlh:l<=h)(hn:h<=xs.length) 
  (hlo:lo=none/\l=0\/∃k,lo=some (.int k l)) (hhi:hi=none/\h=xs.length\/∃k,hi=some (.int k h)):
  ∃ao c,(AeP t v lo hi none).run P w = .ok (.slice ao (h-l) c) w/\RB w (.slice ao (h-l) c) ((xs.drop l).take (h-l)):=by
 obtain⟨ao,c,hrun,hR⟩:=Jo ht he hr lo hi l h hlh hn hlo hhi;refine⟨ao,c,hrun,?_⟩;have a:((xs.drop l).take (h-l)).length=h-l:=by rw[AcS,AcU];omega
 unfold RB;rw[a];have b:Acv ((xs.drop l).take (h-l))=((Acv xs).drop (l*1)).take ((h-l)*1):=by
  simp[Acv,Agc,Ahk]
 rw[b];exact hR
theorem GY{ops:Array AcM}{rest:List AcM}{o:AcM}{a:Act}{w:Acs}{Q:Afk->Act->Acs->Prop}(hgd:o.guard=none)(t:Acz)(x:AcD)(lo hi:Option AcD)(ho:o.op = .slice t x lo hi none) 
  {e:Acz} (ht:P.underlying t=some (.slice e)) (he:∀w' :Acs,(sizeOf e).run P w' = .ok 1 w') (v:Acr) (xs:AhU) (hx:a.eval x=v) (hr:RB w v xs) (l h:Nat) (hlh:l<=h) (hn:h<=xs.length)
  (hlo:lo.map a.eval=none/\l=0\/∃k,lo.map a.eval=some (.int k l)) (hhi:hi.map a.eval=none/\h=xs.length\/∃k,hi.map a.eval=some (.int k h))
  (hK:∀ao c,RB w (.slice ao (h-l) c) ((xs.drop l).take (h-l))->wpList P ops Q rest (a.put o.dst (.slice ao (h-l) c)) w):wpList P ops Q (o :: rest) a w:=
 wpList_plain hgd fun K hK' =>by
  obtain⟨ao,c,hrun,hR⟩:=Js ht he hr (lo.map a.eval) (hi.map a.eval) l h hlh hn hlo hhi;unfold AeL execOp;simp only[ho,hx,Aek,hrun,AcC,AcE,AcB];exact hK' _ _ (hK ao c hR)
theorem RB.open_{w:Acs}{v:Acr}{l:AhU}(h:RB w v l)(hl:0<l.length):∃b off cap,v = .slice (some ⟨b,off,none⟩) l.length cap/\l.length<=cap/\cap<=9223372036854775807/\b<w.heap.size/\∀i,i<l.length->w.cell? ⟨b,off+i,none⟩=some (.int .u8 ((l.getD i 0).toNat:Int)):=by
 obtain⟨h1,ao,cap,rfl,h2,h3,h4,h5⟩:=h;cases ao with
 | none=>have:=(h4 rfl).1;omega
 | some a=>
  obtain⟨b,off,sp⟩:=a;have hc:∀i,i<l.length->w.cell? ((⟨b,off,sp⟩:Addr).add i)=some (.int .u8 ((l.getD i 0).toNat:Int)):=fun i hi=>h5 _ rfl i _ (by simp[Acv,hi]);have hsp:sp=none:=by
   have:=hc 0 hl
   simpa [AeO] using World.cell?_spot this
  subst hsp;refine⟨b,off,cap,rfl,h2,by simpa [maxLen] using h3,AdE w _ (hc 0 hl),fun i hi=> ?_⟩;have:=hc i hi
  rwa [AdU]at this
theorem AaZ{K:Acr->Acs->Prop}{ρ:Tmp->Acr}{t e:Acz}{x:AcD}{lo hi:Option AcD}{d:Option Tmp}{ty:Acz}{pos:String}{af:Array Adk}{gd:Option (Nat × Bool)}{w:Acs} 
  (ht:P.underlying t=some (.slice e)) (he:∀w' :Acs,(sizeOf e).run P w' = .ok 1 w') {xs:AhU} (hr:RB w (Ab ρ x) xs) (l h:Nat) (hlh:l<=h) (hn:h<=xs.length)
  (hlo:lo.map (Ab ρ)=none/\l=0\/∃k,lo.map (Ab ρ)=some (.int k l)) (hhi:hi.map (Ab ρ)=none/\h=xs.length\/∃k,hi.map (Ab ρ)=some (.int k h))
  (hK:∀ao c,RB w (.slice ao (h-l) c) ((xs.drop l).take (h-l))->K (.slice ao (h-l) c) w):Yk P K ((execOp (Ab ρ) ⟨d, .slice t x lo hi none,ty,pos,af,gd⟩).run P w):=by
 obtain⟨ao,c,hrun,hR⟩:=Js ht he hr (lo.map (Ab ρ)) (hi.map (Ab ρ)) l h hlh hn hlo hhi;refine AbK (v:= .slice ao (h-l) c) (w' :=w) ?_ (hK ao c hR);unfold execOp;simp only[Aek,hrun,AcC,AcE,AcB]
abbrev Ah:=Tmp->Acr
def Ni(ρ:Ah)(d:Tmp)(v:Acr):Ah:=fun t=>cond (Af3 t d) v (ρ t)
def updO(ρ:Ah)(d:Option Tmp)(v:Acr):Ah:=match d with
 | none=>ρ
 | some d=>Ni ρ d v
structure Fits (n : Nat) (ρ : Ah) (a : Act) : Prop where
 size:a.tmps.size=n
 defers:a.defers= []
 get:∀t,a.tmps.getD t undef=ρ t
theorem Fits.eval{n:Nat}{ρ:Ah}{a:Act}(h:Fits n ρ a):a.eval=Ab ρ:=by
 funext x
 cases x with
 | tmp t=>exact h.get t
 | _=>rfl
theorem Fits.put{n:Nat}{ρ:Ah}{a:Act}(h:Fits n ρ a)(d:Option Tmp)(hd:∀t,d=some t->t<n)(v:Acr):Fits n (updO ρ d v) (a.put d v):=by
 cases d with
 | none=>exact h
 | some d=>
  have hdn:=hd d rfl;refine⟨by simp[Act.put,h.size],h.defers,fun t=> ?_⟩;have hg:=h.get t;simp only[updO,Ni,Act.put,Adi,Array.getElem?_setIfInBounds,h.size]at hg ⊢;by_cases htd:t=d
  ·subst htd;simp[hdn]
  ·have hb:Af3 t d=false:=by
    cases hb:Af3 t d with
    | false=>rfl
    | true=>exact absurd (Nat.eq_of_beq_eq_true hb) htd
   rw[hb,if_neg (fun e=>htd e.symm)];exact hg
theorem Im{T:Array Acr}{d:Nat}{b:Bool}(h:T.getD d undef = .bool b):T[d]? =some (.bool b):=by
 rw[Adi]at h;cases hx:T[d]? with
 | none=>rw[hx]at h;cases h
 | some x=>rw[hx]at h;simp at h;rw[h]
abbrev Be:=Afk->Ah->Acs->Prop
def Cg(P:AcN)(n:Nat)(c:Code)(Q:Be)(ρ:Ah)(w:Acs):Prop:=
 ∀a,Fits n ρ a->c.wp P (fun e a' w' =>∃ρ',Fits n ρ' a' /\Q e ρ' w') a w
def Ee(K:Ah->Acs->Prop)(Q:Be):Be
 | .normal,ρ,w=>K ρ w
 | e,ρ,w=>Q e ρ w
def CI(id:Nat)(Q:Be):Be
 | .exit id',ρ,w=>if id' =id then Q .normal ρ w else Q (.exit id') ρ w
 | e,ρ,w=>Q e ρ w
def Pq(Q:Be):Be
 | .goto _,_,_=>False
 | e,ρ,w=>Q e ρ w
section
variable {P : AcN} {n : Nat} {Q : Be} {ρ : Ah} {w : Acs}
theorem wpF_mono{c:Code}{Q' :Be}(h:Cg P n c Q ρ w)(hq:∀e ρ w,Q e ρ w->Q' e ρ w):Cg P n c Q' ρ w:=
 fun a ha=>wp_mono (h a ha) fun e _ w ⟨ρ',hf,hQ⟩=>⟨ρ',hf,hq e ρ' w hQ⟩
theorem Gd(h:Q .normal ρ w):Cg P n .skip Q ρ w:=fun _ ha=>wp_skip ⟨ρ,ha,h⟩
theorem TP{id:Nat}(h:Q (.exit id) ρ w):Cg P n (.exit id) Q ρ w:=fun _ ha=>wp_exit ⟨ρ,ha,h⟩
theorem Wa(h:Q .ret ρ w):Cg P n .ret Q ρ w:=fun _ ha=>wp_ret ⟨ρ,ha,h⟩
theorem Pr{x y:Code}(h:Cg P n x (Ee (Cg P n y Q) Q) ρ w):Cg P n (.seq x y) Q ρ w:=fun a ha=>
 wp_seq (wp_mono (h a ha) fun e a' w' ⟨ρ',hf,hQ⟩=>by
  cases e with
  | normal=>exact hQ a' hf
  | _=>exact⟨ρ',hf,hQ⟩)
theorem sk{x y:Code}(h:∀K:Ah->Acs->Prop,(∀ρ w,Cg P n y Q ρ w->K ρ w)->Cg P n x (Ee K Q) ρ w):Cg P n (.seq x y) Q ρ w:=Pr (h _ fun _ _ h=>h)
theorem Ge{c:AcD}{x y:Code}(hc:Ab ρ c = .bool true)(h:Cg P n x Q ρ w):Cg P n (.cond c x y) Q ρ w:=fun a ha=>wp_cond_true (by rw[ha.eval];exact hc) (h a ha)
theorem DU{c:AcD}{x y:Code}(hc:Ab ρ c = .bool false)(h:Cg P n y Q ρ w):Cg P n (.cond c x y) Q ρ w:=fun a ha=>wp_cond_false (by rw[ha.eval];exact hc) (h a ha)
theorem TQ{c:AcD}{x y:Code}(p:Prop)[Decidable p](hc:Ab ρ c = .bool (decide p))(h1:p->Cg P n x Q ρ w)(h2:¬p->Cg P n y Q ρ w):Cg P n (.cond c x y) Q ρ w:=by
 by_cases hp:p
 ·exact Ge (by rw[hc,decide_eq_true hp]) (h1 hp)
 ·exact DU (by rw[hc,decide_eq_false hp]) (h2 hp)
theorem Ry{c:AcD}{x y:Code}(b:Bool)(hc:Ab ρ c = .bool b)(h1:b=true->Cg P n x Q ρ w)(h2:b=false->Cg P n y Q ρ w):Cg P n (.cond c x y) Q ρ w:=by
 cases b
 ·exact DU hc (h2 rfl)
 ·exact Ge hc (h1 rfl)
theorem Rz{id:Nat}{c:Code}(h:Cg P n c (CI id Q) ρ w):Cg P n (.block id c) Q ρ w:=fun a ha=>
 wp_block (wp_mono (h a ha) fun e a' w' ⟨ρ',hf,hQ⟩=>by
  cases e with
  | exit id' =>
   simp only[CI]at hQ;simp only[Exit.inBlock];split at hQ
   ·rw[if_pos ‹_›];exact⟨ρ',hf,hQ⟩
   ·rw[if_neg ‹_›];exact⟨ρ',hf,hQ⟩
  | _=>exact⟨ρ',hf,hQ⟩)
theorem RA{c:Code}(h:Cg P n c (Pq Q) ρ w):Cg P n (.scope c) Q ρ w:=fun a ha=>
 wp_scope_straight (wp_mono (h a ha) fun e a' w' ⟨ρ',hf,hQ⟩=>by
  cases e with
  | goto l=>exact hQ
  | _=>exact⟨ρ',hf,hQ⟩)
theorem TS{c:Code}(I:Ah->Acs->Prop)(μ:Ah->Acs->Nat)(h0:I ρ w) 
  (round:∀ρ w,I ρ w->Cg P n c (Ee (fun ρ' w' =>I ρ' w' /\μ ρ' w' <μ ρ w) Q) ρ w):Cg P n (.loop c) Q ρ w:=by
 intro a ha;refine wp_loop (fun a w=>∃ρ,Fits n ρ a/\I ρ w) (fun a w=>μ (fun t=>a.tmps.getD t undef) w) ⟨ρ,ha,h0⟩ ?_;rintro a w ⟨ρ,hf,hI⟩;have he:(fun t=>a.tmps.getD t undef)=ρ:=funext hf.get;refine wp_mono (round ρ w hI a hf) fun e a' w' ⟨ρ',hf',hQ⟩=> ?_;cases e with
 | normal=>exact⟨⟨ρ',hf',hQ.1⟩,by rw[he,show(fun t=>a'.tmps.getD t undef)=ρ' from funext hf'.get];exact hQ.2⟩
 | _=>exact⟨ρ',hf',hQ⟩
/-! ### A region in the order of the text, operation by operation -/
def BX(P:AcN)(ops:Array AcM)(n:Nat)(Q:Be)(l:List AcM)(ρ:Ah)(w:Acs):Prop:=
 ∀a,Fits n ρ a->wpList P ops (fun e a' w' =>∃ρ',Fits n ρ' a' /\Q e ρ' w') l a w
theorem wt{id:Nat}{l:List AcM}(h:BX P l.toArray n Q l ρ w):Cg P n (.region id l.toArray false) Q ρ w:=fun a ha=>wp_region_lit (h a ha)
theorem oZ{ops:Array AcM}(h:Q .normal ρ w):BX P ops n Q [] ρ w:=fun _ ha=>⟨ρ,ha,h⟩
theorem oS{ops:Array AcM}{rest:List AcM}{dst:Option Tmp}{op:Op}{ty:Acz}{pos:String}{af:Array Adk}(hd:(match dst with | some d=>Aef d n | none=>true)=true) 
  (h:Yk P (fun v w' =>BX P ops n Q rest (updO ρ dst v) w') ((execOp (Ab ρ) ⟨dst,op,ty,pos,af,none⟩).run P w)):BX P ops n Q (⟨dst,op,ty,pos,af,none⟩ :: rest) ρ w:=by
 intro a ha;have hdn:∀t,dst=some t->t<n:=fun t ht=>by subst ht;exact AcF hd
 refine wpList_plain rfl fun K hK=> ?_;unfold AeL AeX;rw[ha.eval];have hput:=fun v=>ha.put dst hdn v
 revert h
 generalize (execOp (Ab ρ) ⟨dst,op,ty,pos,af,none⟩).run P w=r
 intro h
 match r,h with
 | .ok (.value v) w',h=>exact hK _ _ (h _ (hput v))
 | .ok .skip w',h=>exact hK _ _ (h _ (hput undef))
 | .ok (.enter f args) w',h=>
  refine Aeo h ?_;rintro e w'' ⟨v,rfl,hk⟩;exact hK _ _ (hk _ (hput v))
theorem oY{ops:Array AcM}{rest:List AcM}{dst:Option Tmp}{op:Op}{ty:Acz}{pos:String}{af:Array Adk}{g:Nat}{want:Bool}{d:Tmp}(hd:(match dst with | some d=>Aef d n | none=>true)=true)(hg:(ops[g]?).bind (·.dst)=some d)(hv:ρ d = .bool want) 
  (h:Yk P (fun v w' =>BX P ops n Q rest (updO ρ dst v) w') ((execOp (Ab ρ) ⟨dst,op,ty,pos,af,some (g,want)⟩).run P w)):BX P ops n Q (⟨dst,op,ty,pos,af,some (g,want)⟩ :: rest) ρ w:=by
 intro a ha;have hdn:∀t,dst=some t->t<n:=fun t ht=>by subst ht;exact AcF hd
 have hw:AdC ⟨dst,op,ty,pos,af,some (g,want)⟩ (yielded ops a.tmps)=true:=by
  have:=Im ((ha.get d).trans hv);simp only[AdC,yielded,hg];simp[this]
 refine wpList_step fun K hK=> ?_;rw[if_pos hw];unfold AeL AeX;rw[ha.eval];have hput:=fun v=>ha.put dst hdn v
 revert h
 generalize (execOp (Ab ρ) ⟨dst,op,ty,pos,af,some (g,want)⟩).run P w=r
 intro h
 match r,h with
 | .ok (.value v) w',h=>exact hK _ _ (h _ (hput v))
 | .ok .skip w',h=>exact hK _ _ (h _ (hput undef))
 | .ok (.enter f args) w',h=>
  refine Aeo h ?_;rintro e w'' ⟨v,rfl,hk⟩;exact hK _ _ (hk _ (hput v))
theorem oN{ops:Array AcM}{rest:List AcM}{o:AcM}{g:Nat}{want b:Bool}{d:Tmp}(hgd:o.guard=some (g,want))(hd:(match o.dst with | some d=>Aef d n | none=>true)=true)(hg:(ops[g]?).bind (·.dst)=some d)(hv:ρ d = .bool b)(hb:(b==want)=false) 
  (h:BX P ops n Q rest (updO ρ o.dst undef) w):BX P ops n Q (o :: rest) ρ w:=by
 intro a ha;have hdn:∀t,o.dst=some t->t<n:=fun t ht=>by rw[ht]at hd;exact AcF hd
 have hw:AdC o (yielded ops a.tmps)=false:=by
  have:=Im ((ha.get d).trans hv);simp only[AdC,hgd,yielded,hg]
  simpa [this] using hb
 refine wpList_step fun K hK=> ?_;rw[if_neg (by rw[hw];simp)];exact hK _ _ (h _ (ha.put o.dst hdn undef))
/-! ### A region that draws its order, by facts -/
def Kk(l:List AcM)(Φ:Nat->BO)(ρ:Ah)(n:Nat)(t:Tmp)(x:Acr)(w:Acs):Prop:=
 match DH l t n with
 | none=>x=ρ t
 | some k=>Φ k x w
def PX(P:AcN)(l:List AcM)(C:Nat->Acs->Prop)(R:Nat->Acs->Acs->Prop)(Φ:Nat->BO)(ρ:Ah)(n:Nat)(o:AcM):Prop:=
 ∀(σ:Ah) (w:Acs),C n w->(∀t∈o.looksAt l.toArray,Kk l Φ ρ n t (σ t) w) ->
  if AY l o σ=true then Yk P (fun v w' =>R n w w' /\Φ n v w') ((execOp (Ab σ) o).run P w)else Φ n undef w
def StepsF(P:AcN)(l:List AcM)(C:Nat->Acs->Prop)(R:Nat->Acs->Acs->Prop)(Φ:Nat->BO)(ρ:Ah):Nat->List AcM->Prop
 | _,[]=>True
 | n,o :: r=>PX P l C R Φ ρ n o/\StepsF P l C R Φ ρ (n+1) r
theorem StepsF.ok{l:List AcM}{C:Nat->Acs->Prop}{R:Nat->Acs->Acs->Prop}{Φ:Nat->BO}{T:Array Acr}(hT:∀t,T.getD t undef=ρ t):∀(r:List AcM) (k:Nat),StepsF P l C R Φ ρ k r->StepsOk P l C R Φ T k r
 | [],_,_=>trivial
 | o :: r,k,h=>⟨fun σ w hC hl=>h.1 σ w hC (fun t ht=>by
  have:=hl t ht;unfold Ga at this;unfold Kk;split
  ·rename_i e;rw[e]at this;rw[<-hT];exact this
  ·rename_i e;rw[e]at this;exact this),StepsF.ok hT r (k+1) h.2⟩
theorem OQ{T:Array Acr}(hT:∀t,T.getD t undef=ρ t)(ds:List Tmp)(hds:∀d∈ds,d<T.size)(u:Ah):∀t,(Dz T ds u).getD t undef=if t∈ds then u t else ρ t:=fun t=>by
 by_cases ht:t<T.size
 ·rw[Ij u t ds T ht,<-hT]
 ·have h1:(Dz T ds u).getD t undef=undef:=by
   rw[Adi,Ae9 (by rw[EW];omega),Option.getD_none]
  have h2:T.getD t undef=undef:=by rw[Adi,Ae9 (by omega),Option.getD_none]
  rw[h1,if_neg (fun h=>ht (hds t h)),<-hT,h2]
theorem RC{l:List AcM}{n:Nat}(hg:DR l n=true)(ds:List Tmp)(hds:slotsW l=ds):∀d∈ds,d<n:=by
 intro d hd;rw[<-hds]at hd;unfold slotsW at hd;rw[List.mem_eraseDups,Af9]at hd;obtain⟨o,ho,hod⟩:=hd;obtain⟨j,hj⟩:=List.getElem?_of_mem ho;exact(I7 hg).room j o d hj hod
structure EndF (ds : List Tmp) (ρ ρ' : Ah) : Prop where
 old:∀t,ds.contains t=false->ρ' t=ρ t
theorem EndF.at_{ds:List Tmp}{ρ ρ' :Ah}(h:EndF ds ρ ρ'){t:Tmp}{v:Acr}(hv:ρ t=v)(ht:ds.contains t=false):ρ' t=v:=(h.old t ht).trans hv
theorem Fe{l:List AcM}(Φs:List BO){id:Nat}(hm:P.follows .mixedOrders=true)(ds:List Tmp)(hg:DR l n=true)(hds:slotsW l=ds)(hst:AllStab Ext Φs)(hs:StepsF P l (fun _=>Ext w) (fun _=>Ext) (EX Φs) ρ 0 l) 
  (hQ:∀(ρ' :Ah) w',Ext w w' ->EndF ds ρ ρ' ->Dg l (fun _=> []) (EX Φs) ρ' w' ds->Q .normal ρ' w'):Cg P n (.region id l.toArray true) Q ρ w:=by
 intro a ha;obtain⟨T,df⟩:=a;have hz:T.size=n:=ha.size;subst hz;refine MR Φs hm T df hg ds hds hst (StepsF.ok ha.get l 0 hs) fun u w' hE hf=> ?_;have hw:=OQ ha.get ds (RC hg ds hds) u;refine⟨fun t=>if t∈ds then u t else ρ t,⟨by rw[EW],ha.defers,hw⟩,hQ _ w' hE ⟨fun t ht=>if_neg (by simpa using ht)⟩ ?_⟩;have key:∀es:List Tmp,(∀d∈es,d∈ds)->Dg l (fun _=> []) (EX Φs) u w' es->Dg l (fun _=> []) (EX Φs) (fun t=>if t∈ds then u t else ρ t) w' es:=by
  intro es
  induction es with
  | nil=>exact fun _ _=>trivial
  | cons d es ih=>
   intro hm h;refine⟨?_,ih (fun x hx=>hm x (by simp[hx])) h.2⟩;have:=h.1;simp only[if_pos (hm d (by simp))];exact this
 exact key ds (fun _ h=>h) hf
variable {l : List AcM} {Φ : Nat -> BO}
theorem AS{C:Nat->Acs->Prop}{R:Nat->Acs->Acs->Prop}{k:Nat}{o:AcM}(hg:o.guard=none) 
  (h:∀σ w,C k w->(∀t∈o.looksAt l.toArray,Kk l Φ ρ k t (σ t) w)->Yk P (fun v w' =>R k w w' /\Φ k v w') ((execOp (Ab σ) o).run P w)):PX P l C R Φ ρ k o:=by
 intro σ w hC hl;have:AY l o σ=true:=by unfold AY;rw[hg]
 rw[if_pos this];exact h σ w hC hl
/-! ### A function is entered; it returns -/
structure Begun (args : List Acr) (ρ : Ah) : Prop where
 get:∀t,ρ t=args.getD t undef
def ResF(P:AcN)(ρ:Ah)(w:Acs):ResultVar->Acr->Prop
 | .tmp t,v=>ρ t=v
 | .cell p ty,v=>∃a,ρ p = .pointer (some a)/\(loadVar ty a).run P w = .ok v w
def GZ(P:AcN)(ρ:Ah)(w:Acs):List ResultVar->List Acr->Prop
 | [],[]=>True
 | r :: rs,v :: vs=>ResF P ρ w r v/\GZ P ρ w rs vs
 | _,_=>False
def resOf(tmps:Array Acr):ResultVar->Sem Acr
 | .tmp t=>pure (tmps.getD t undef)
 | .cell a t=>do loadVar t (<-asAddr (tmps.getD a undef))
theorem In{ρ:Ah}{w:Acs}{tmps:Array Acr}(ht:∀t,tmps.getD t undef=ρ t):∀(rs:List ResultVar) (vs:List Acr),GZ P ρ w rs vs->(rs.mapM (resOf tmps)).run P w=AgK vs w
 | [],[],_=>by simp[AcE]
 | [],_ :: _,h=>h.elim
 | _ :: _,[],h=>h.elim
 | r :: rs,v :: vs,h=>by
  have ih:=In ht rs vs h.2;have h1:(resOf tmps r).run P w = .ok v w:=by
   have h1:=h.1;cases r with
   | tmp t=>
    simp only[ResF]at h1;simp only[resOf,ht,h1,AcE]
   | cell p ty=>
    obtain⟨a,ha,hl⟩:=h1;simp only[resOf,ht,ha,asAddr,AcC,AcE,AcB,hl]
  rw[List.mapM_cons,AcC,h1];simp only[AcB,AcC,ih,AcE]
def Io:List Acr->Acr
 | [v]=>v
 | vs=> .tuple vs.toArray
theorem Hr{fn:Func}{rs:List ResultVar}(hrs:fn.results=rs.toArray){tmps:Array Acr}(ht:∀t,tmps.getD t undef=ρ t){vs:List Acr}(h:GZ P ρ w rs vs):
  (results fn tmps).run P w = .ok (Io vs) w:=by
 have h1:=In ht rs vs h;have he:results fn tmps=(do let vs <-fn.results.mapM (resOf tmps);pure (if h:vs.size=1 then vs[0]else .tuple vs)):=by
  unfold results
  congr 1
 rw[he,hrs,List.mapM_toArray,AcC];have hm:((List.toArray <$> rs.mapM (resOf tmps)):Sem (Array Acr)).run P w = .ok vs.toArray w:=by
  show((rs.mapM (resOf tmps)).bind (fun x=>Sem.pure x.toArray)).run P w=_;rw[show(rs.mapM (resOf tmps)).bind (fun x=>Sem.pure x.toArray)=(do let x <-rs.mapM (resOf tmps);pure x.toArray)from rfl,AcC,h1];rfl
 rw[hm];simp only[AcB,AcE]
 match vs with
 | []=>rfl
 | [v]=>rfl
 | _ :: _ :: _=>simp[Io]
theorem ResF.row{p:Tmp}{ty:Acz}{g:Nat}{t:Acz}{cs:Array Acr}{fr:Nat × Nat}{d:TypeDesc}(hp:ρ p = .pointer (some ⟨g,0,none⟩))(hg:w.heap[g]? =some (.cells cs t fr)) 
  (hu:P.underlying ty=some d) (hd:(match d with | .struct _ | .array _ _=>true | _=>false)=true) (hi:(P.info? ty).map (·.size)=some cs.size):ResF P ρ w (.cell p ty) (.agg cs):=
 ⟨_,hp,run_loadVar_row w g t ty cs fr d hg hu hd hi⟩
abbrev AbR:=@ResF.row
end
variable {P : AcN}
abbrev NI(n:Nat):Acr:= .int .i64 (n:Int)
abbrev B8(x:UInt8):Acr:= .int .u8 (x.toNat:Int)

theorem Wb{op:BinOp}{t ty2:Acz}{x y:AcD}{d:Option Tmp}{ty:Acz}{pos:String}{af:Array Adk}{gd:Option (Nat × Bool)}{ρ:AcD->Acr}{xv yv v:Acr}{w:Acs} 
  (hx:ρ x=xv) (hy:ρ y=yv) (hne:(op matches .eql | .neq)=false) (hr:Adb op t xv yv=pure v):(execOp ρ ⟨d, .binOp op t x y ty2,ty,pos,af,gd⟩).run P w = .ok (.value v) w:=by
 have hg:eqGuard op t x y xv yv=pure ():=by
  unfold eqGuard;cases op <;> first | rfl | cases hne
 unfold execOp;simp only[hx,hy,hg,hr,AcC,AcE,AcB]
theorem Y4{K:Acr->Acs->Prop}{op:BinOp}{t ty2:Acz}{x y:AcD}{d:Option Tmp}{ty:Acz}{pos:String}{af:Array Adk}{gd:Option (Nat × Bool)}{ρ:Tmp->Acr}{xv yv v:Acr}{w:Acs} 
  (hx:Ab ρ x=xv) (hy:Ab ρ y=yv) (hne:(op matches .eql | .neq)=false) (hr:Adb op t xv yv=pure v) (hk:K v w):Yk P K ((execOp (Ab ρ) ⟨d, .binOp op t x y ty2,ty,pos,af,gd⟩).run P w):=
 AbK (Wb hx hy hne hr) hk
theorem AaS{K:Acr->Acs->Prop}{t e:Acz}(ht:P.underlying t=some (.slice e))(he:∀w' :Acs,(sizeOf e).run P w' = .ok 1 w'){x y:AcD}{d:Option Tmp}{ty:Acz}{pos:String}{af:Array Adk}{gd:Option (Nat × Bool)}{ρ:Tmp->Acr}{w:Acs}{b o i n c:Nat}{k:AdI} 
  (hx:Ab ρ x = .slice (some ⟨b,o,none⟩) n c) (hy:Ab ρ y = .int k (i:Int)) (hi:i<n) (hk:K (.pointer (some ⟨b,o+i,none⟩)) w):Yk P K ((execOp (Ab ρ) ⟨d, .indexAddr t x y,ty,pos,af,gd⟩).run P w):=by
 refine AbK (v:= .pointer (some ⟨b,o+i,none⟩)) (w' :=w) ?_ hk;have hE:P.elem t=e:=by simp[Program.elem,ht]
 have hr:=run_indexAt_slice (P:=P) w t ⟨b,o,none⟩ n c k (i:Int) (by rw[hE];exact ht);rw[if_pos (by omega),hE,he]at hr;unfold execOp;simp only[hx,hy,AcC,hr,AcB,AcE];simp[AdU]
theorem RD{ty:Acz}{desc:TypeDesc}(hu:P.underlying ty=some desc)(hd:(match desc with | .struct _ | .array _ _=>false | _=>true)=true){x:AcD}{d:Option Tmp}{tt:Acz}{pos:String}{af:Array Adk}{gd:Option (Nat × Bool)}{ρ:AcD->Acr}{w:Acs}{a:Addr}{v:Acr} 
  (hx:ρ x = .pointer (some a)) (hc:w.cell? a=some v):(execOp ρ ⟨d, .load ty x,tt,pos,af,gd⟩).run P w = .ok (.value v) w:=by
 have hl:(Ahy ty (.pointer (some a))).run P w = .ok v w:=by
  have hagg:(isAgg ty).run P w = .ok false w:=by
   unfold isAgg;rw[AcC,run_underlying hu w];cases desc <;> simp_all
  simp[Ahy,AeZ,loadVar,hagg,hc]
 unfold execOp;simp only[hx,AcC,hl,AcB,AcE]
theorem YW{K:Acr->Acs->Prop}{ty:Acz}{desc:TypeDesc}(hu:P.underlying ty=some desc)(hd:(match desc with | .struct _ | .array _ _=>false | _=>true)=true){x:AcD}{d:Option Tmp}{tt:Acz}{pos:String}{af:Array Adk}{gd:Option (Nat × Bool)}{ρ:Tmp->Acr}{w:Acs}{a:Addr}{v:Acr} 
  (hx:Ab ρ x = .pointer (some a)) (hc:w.cell? a=some v) (hk:K v w):Yk P K ((execOp (Ab ρ) ⟨d, .load ty x,tt,pos,af,gd⟩).run P w):=
 AbK (RD hu hd hx hc) hk
section
variable {P : AcN} {K : Acr -> Acs -> Prop} {ρ : Ah} {w : Acs} {d : Option Tmp} {ty : Acz} {pos : String} {af : Array Adk} {gd : Option (Nat × Bool)}
theorem Yk.move{x:AcD}{v:Acr}(hx:Ab ρ x=v)(hk:K v w):Yk P K ((execOp (Ab ρ) ⟨d, .move x,ty,pos,af,gd⟩).run P w):=by
 subst hx;exact hk
abbrev AbL:=@Yk.move
theorem Yk.assign{x:AcD}{v:Acr}(hx:Ab ρ x=v)(hk:K v w):Yk P K ((execOp (Ab ρ) ⟨d, .assign x,ty,pos,af,gd⟩).run P w):=by
 subst hx;exact hk
abbrev AbX:=@Yk.assign
theorem Zi{c x y:AcD}{v:Acr}(hc:Ab ρ c = .bool true)(hx:Ab ρ x=v)(hk:K v w):Yk P K ((execOp (Ab ρ) ⟨d, .pick c x y,ty,pos,af,gd⟩).run P w):=by
 subst hx;unfold execOp;simp only[hc,asBool,AcC,AcE,AcB,if_true];exact hk
theorem Zx{c x y:AcD}{v:Acr}(hc:Ab ρ c = .bool false)(hx:Ab ρ y=v)(hk:K v w):Yk P K ((execOp (Ab ρ) ⟨d, .pick c x y,ty,pos,af,gd⟩).run P w):=by
 subst hx;unfold execOp;simp only[hc,asBool,AcC,AcE,AcB,Bool.false_eq_true,if_false];exact hk
theorem Yk.nilCheck{x:AcD}{a:Addr}(hx:Ab ρ x = .pointer (some a))(hk:K (.pointer (some a)) w):Yk P K ((execOp (Ab ρ) ⟨d, .nilCheck x,ty,pos,af,gd⟩).run P w):=by
 unfold execOp;simp only[hx];exact hk
abbrev AbF:=@Yk.nilCheck
def AC(P:AcN)(s:Acz)(f off:Nat):Prop:=∀(b o:Nat) (w:Acs),(Instr.fieldAt s (.pointer (some ⟨b,o,none⟩)) f).run P w = .ok (.pointer (some ⟨b,o+off,none⟩)) w
theorem Yk.fieldAt{s:Acz}{f off b o:Nat}(hf:AC P s f off){x:AcD}(hx:Ab ρ x = .pointer (some ⟨b,o,none⟩))(hk:K (.pointer (some ⟨b,o+off,none⟩)) w):Yk P K ((execOp (Ab ρ) ⟨d, .fieldAddr s x f,ty,pos,af,gd⟩).run P w):=by
 unfold execOp;simp only[hx,AcC,hf b o w,AcB,AcE];exact hk
abbrev AbD:=@Yk.fieldAt
theorem Yk.alloc{e:Acz}{cs:Array Acr}(hz:∀(σ:AcD->Acr) (w:Acs),(execOp σ ⟨d, .alloc e,ty,pos,af,gd⟩).run P w = .ok (.value (.pointer (some ⟨w.heap.size,0,none⟩))) (w.alloc (.cells cs e))) 
  (hk:∀n w',w.heap.size=n->w'.heap[n]? =some (.cells cs e (0,0))->Ext w w' ->w'.heap.size=n+1->K (.pointer (some ⟨n,0,none⟩)) w'):Yk P K ((execOp (Ab ρ) ⟨d, .alloc e,ty,pos,af,gd⟩).run P w):=by
 rw[hz];exact hk _ _ rfl (heap_alloc_new w _) ((Adp _ _).alloc (Acy _) _) (by simp)
abbrev AbM:=@Yk.alloc
theorem Yk.box{e:Acz}{x:AcD}{cs:Array Acr}(hx:Ab ρ x = .agg cs) 
  (hk:∀n w',w.heap.size=n->w'.heap[n]? =some (.cells cs e (0,0))->Ext w w' ->w'.heap.size=n+1->K (.pointer (some ⟨n,0,none⟩)) w'):Yk P K ((execOp (Ab ρ) ⟨d, .box e x,ty,pos,af,gd⟩).run P w):=by
 have hr:(execOp (Ab ρ) ⟨d, .box e x,ty,pos,af,gd⟩).run P w = .ok (.value (.pointer (some ⟨w.heap.size,0,none⟩))) (w.alloc (.cells cs e)):=by
  show((Instr.box e (Ab ρ x)).run P w).andThen (fun v w=>AgK (Next.value v) w)=_;rw[hx];rfl
 rw[hr];exact hk _ _ rfl (heap_alloc_new w _) ((Adp _ _).alloc (Acy _) _) (by simp)
abbrev AbU:=@Yk.box
theorem Zk{t e:Acz}(ht:P.underlying t=some (.slice e)){x:AcD}{l:AhU}{w0:Acs}(h:RB w0 (Ab ρ x) l)(hk:K (NI l.length) w):Yk P K ((execOp (Ab ρ) ⟨d, .call ⟨.builtin .len,#[x],#[t]⟩,ty,pos,af,gd⟩).run P w):=by
 obtain⟨h1,ao,cap,hv,h2,h3,h4,h5⟩:=h;refine AbK (v:=NI l.length) (w' :=w) ?_ hk;unfold execOp;simp[resolve,invoke,builtin,Ahz,hv,run_underlying ht,goInt]
theorem Aac{t e:Acz}(ht:P.underlying t=some (.slice e)){x:AcD}{ao:Option Addr}{n c:Nat}(hx:Ab ρ x = .slice ao n c)(hk:K (NI n) w):Yk P K ((execOp (Ab ρ) ⟨d, .call ⟨.builtin .len,#[x],#[t]⟩,ty,pos,af,gd⟩).run P w):=by
 refine AbK (v:=NI n) (w' :=w) ?_ hk;unfold execOp;simp[resolve,invoke,builtin,Ahz,hx,run_underlying ht,goInt]
theorem Abc{t:Acz}(ht:P.underlying t=some .string){x:AcD}{s:ByteArray}(hx:Ab ρ x = .string s)(hk:K (NI s.size) w):Yk P K ((execOp (Ab ρ) ⟨d, .call ⟨.builtin .len,#[x],#[t]⟩,ty,pos,af,gd⟩).run P w):=by
 refine AbK (v:=NI s.size) (w' :=w) ?_ hk;unfold execOp;simp[resolve,invoke,builtin,Ahz,hx,run_underlying ht,goInt]
def PCell(v:Acr):BO:=fun x w=>∃a,x = .pointer (some a)/\w.cell? a=some v
theorem Aag(v:Acr):Stab Ext (PCell v):=fun _ _ _ ⟨a,hx,hc⟩ h=>⟨a,hx,by rw[Below.cell h (AdE _ a hc)];exact hc⟩
theorem PCell.keep{v x:Acr}{w w' :Acs}(h:PCell v x w)(k:Ext w w'):PCell v x w' :=Aag v x w w' h k
theorem Z7{t e:Acz}(ht:P.underlying t=some (.slice e))(he:∀w' :Acs,(sizeOf e).run P w' = .ok 1 w'){x y:AcD}{l:AhU}(h:RB w (Ab ρ x) l){k:AdI}{i:Nat}(hy:Ab ρ y = .int k (i:Int))(hi:i<l.length) 
  (hk:∀v,PCell (B8 (l.getD i 0)) v w->K v w):Yk P K ((execOp (Ab ρ) ⟨d, .indexAddr t x y,ty,pos,af,gd⟩).run P w):=by
 obtain⟨b,off,cap,hv,h1,h2,h3,h4⟩:=h.open_ (by omega);exact AaS ht he hv hy hi (hk _ ⟨_,rfl,h4 i hi⟩)
theorem Zo{t:Acz}{desc:TypeDesc}(hu:P.underlying t=some desc)(hd:(match desc with | .struct _ | .array _ _=>false | _=>true)=true){x:AcD}{v:Acr}(hx:PCell v (Ab ρ x) w)(hk:K v w):Yk P K ((execOp (Ab ρ) ⟨d, .load t x,ty,pos,af,gd⟩).run P w):=by
 obtain⟨a,ha,hc⟩:=hx;exact YW hu hd ha hc hk
theorem YX{op:BinOp}{t ty2:Acz}{x y:AcD}{k:AdI}{a b:Int}{v:Acr}(hx:Ab ρ x = .int k a)(hy:Ab ρ y = .int k b)(hr:Adb op t (.int k a) (.int k b)=pure v)(hk:K v w):Yk P K ((execOp (Ab ρ) ⟨d, .binOp op t x y ty2,ty,pos,af,gd⟩).run P w):=by
 have hg:eqGuard op t x y (.int k a) (.int k b)=pure ():=by
  unfold eqGuard;cases op <;> rfl
 refine AbK (v:=v) (w' :=w) ?_ hk;unfold execOp;simp only[hx,hy,hg,hr,AcC,AcE,AcB]
theorem Zh{t:Acz}{x:AcD}{b:Bool}(hx:Ab ρ x = .bool b)(hk:K (.bool (!b)) w):Yk P K ((execOp (Ab ρ) ⟨d, .unOp .not t x,ty,pos,af,gd⟩).run P w):=by
 refine AbK (v:= .bool (!b)) (w' :=w) ?_ hk;unfold execOp;simp[hx,Op.unary]
theorem Yk.run{o:AcM}{v:Acr}(hr:(execOp (Ab ρ) o).run P w = .ok (.value v) w)(hk:K v w):Yk P K ((execOp (Ab ρ) o).run P w):=by rw[hr];exact hk
abbrev Ab4:=@Yk.run
theorem YV{src dst:Acz}{ks kd:AdI}(hs:P.underlying src=some (.int ks))(hd:P.underlying dst=some (.int kd))(a:Int)(w:Acs):(convert src dst (.int ks a)).run P w = .ok (.int kd (kd.wrap a)) w:=by
 simp only[convert,AcC,run_underlying hs,run_underlying hd,AcB,Conv.intToInt,AcE]
theorem ZM{src dst:Acz}{ks kd:AdI}(hs:P.underlying src=some (.int ks))(hd:P.underlying dst=some (.int kd)){x:AcD}{a b:Int}(hx:Ab ρ x = .int ks a)(hb:kd.wrap a=b)(hk:K (.int kd b) w):Yk P K ((execOp (Ab ρ) ⟨d, .convert src dst x,ty,pos,af,gd⟩).run P w):=by
 refine AbK (v:= .int kd b) (w' :=w) ?_ hk;have:=Go.Proofs.YtbbbblinjomajaaGreatDoor.YV (P:=P) hs hd a w;unfold execOp;simp only[hx,AcC,this,AcB,AcE,hb]
theorem ZI(s x:AcD){t tx e e' :Acz}(base:Nat)(z:Acr)(ht:P.underlying t=some (.slice e))(hi:(P.info? e).map (fun i=>(i.zero,i.size,i.bytes))=some (some z,1,1))(hzs:z.cells.size=1)(hu:P.underlying tx=some (.slice e')) 
  (l m:AhU) (hown:w.ownsRow base e 1 (Ab ρ s) l.length (Acv l)) (hsrc:RB w (Ab ρ x) m) (hb:l.length+m.length<=140737488355328) (hbase:base<=w.heap.size)
  (h:∀v' w',w'.ownsRow base e 1 v' (l++m).length (Acv (l++m))->Grew w w' (Ab ρ s) v' ->K v' w'):Yk P K ((execOp (Ab ρ) ⟨d, .call ⟨.builtin .append,#[s,x],#[t,tx]⟩,ty,pos,af,gd⟩).run P w):=
 Yk.append s x base e z 1 1 ht hi hzs l.length (Acv l) hown m.length (Acv m) (hsrc.src hu) (by unfold maxLen;omega) (by omega) hbase fun v' w' ho g=>h v' w' (by rw[Acx,Ahd];exact ho) g
theorem Nj(w:Acs)(e:Acz)(l:AhU)(hl:l.length<=9223372036854775807):NewB e w (w.alloc (.cells (Acv l).toArray e)) (.slice (some ⟨w.heap.size,0,none⟩) l.length l.length) l:=
 ⟨⟨by rw[AcH];simp, .inr ⟨w.heap.size,l.length,(Acv l).toArray,rfl,Acy _,heap_alloc_new w _,Acy _,hl,by simp[AcH],by rw[show l.length*1=(Acv l).length by rw[AcH];simp];exact List.take_length⟩⟩,Ahp _ _ none⟩
theorem Z0{f:Aed}(hp:Plain P f){args:Array AcD}{at_:Array Acz}(vs:List Acr)(hv:args.toList.map (Ab ρ)=vs) 
  (h:Calls P f vs.toArray w fun e w' =>∃v,e = .returned v/\K v w'):Yk P K ((execOp (Ab ρ) ⟨d, .call ⟨.value (.func f),args,at_⟩,ty,pos,af,gd⟩).run P w):=by
 subst hv;have:=Yk.call (P:=P) (K:=K) hp (ρ:=ρ) (args:=args.toList) (at_:=at_) (dst:=d) (ty:=ty) (pos:=pos) (af:=af) (gd:=gd) (w:=w) h
 simpa using this
theorem ZT{f:Aed}(hp:Plain P f){at_:Array Acz} 
  (h:Calls P f #[] w fun e w' =>∃v,e = .returned v/\K v w'):Yk P K ((execOp (Ab ρ) ⟨d, .call ⟨.value (.func f),#[],at_⟩,ty,pos,af,gd⟩).run P w):=
 Z0 hp [] (by simp) h
theorem YZ{f:Aed}(hp:Plain P f){x0:AcD}{a:Acr}{at_:Array Acz}(h0:Ab ρ x0=a) 
  (h:Calls P f #[a] w fun e w' =>∃v,e = .returned v/\K v w'):Yk P K ((execOp (Ab ρ) ⟨d, .call ⟨.value (.func f),#[x0],at_⟩,ty,pos,af,gd⟩).run P w):=
 Z0 hp [a] (by simp[h0]) h
theorem Y2{f:Aed}(hp:Plain P f){x0 x1:AcD}{a b:Acr}{at_:Array Acz}(h0:Ab ρ x0=a)(h1:Ab ρ x1=b) 
  (h:Calls P f #[a,b] w fun e w' =>∃v,e = .returned v/\K v w'):Yk P K ((execOp (Ab ρ) ⟨d, .call ⟨.value (.func f),#[x0,x1],at_⟩,ty,pos,af,gd⟩).run P w):=
 Z0 hp [a,b] (by simp[h0,h1]) h
theorem Y9{f:Aed}(hp:Plain P f){x0 x1 x2:AcD}{a b c:Acr}{at_:Array Acz}(h0:Ab ρ x0=a)(h1:Ab ρ x1=b)(h2:Ab ρ x2=c) 
  (h:Calls P f #[a,b,c] w fun e w' =>∃v,e = .returned v/\K v w'):Yk P K ((execOp (Ab ρ) ⟨d, .call ⟨.value (.func f),#[x0,x1,x2],at_⟩,ty,pos,af,gd⟩).run P w):=
 Z0 hp [a,b,c] (by simp[h0,h1,h2]) h
theorem Abd{src dst e:Acz}(hs:P.underlying src=some (.slice e))(he:P.underlying e=some (.int .u8))(hd:P.underlying dst=some .string){x:AcD}{l:AhU} 
  (h:RB w (Ab ρ x) l) (hk:K (.string ⟨l.toArray⟩) w):Yk P K ((execOp (Ab ρ) ⟨d, .convert src dst x,ty,pos,af,gd⟩).run P w):=by
 have hr:=Ng (P:=P) hs he hd h;refine AbK (v:= .string ⟨l.toArray⟩) (w' :=w) ?_ hk;unfold execOp;simp only[AcC,hr,AcB,AcE]
theorem Zn{v x:Acr}{l:AhU}(h:RB w v l)(e:x=v):RB w x l:=by rw[e];exact h
theorem Zu{v x y:Acr}(h:PCell v x w)(e:y=x):PCell v y w:=by rw[e];exact h
theorem G0{v x:Acr}{b:Nat}{e:Acz}{z n:Nat}{xs:List Acr}(h:w.ownsRow b e z v n xs)(e' :x=v):w.ownsRow b e z x n xs:=by rw[e'];exact h
theorem oM{Q:Be}{ops:Array AcM}{n:Nat}{rest:List AcM}{dst:Option Tmp}{x:AcD}{ty:Acz}{pos:String}{af:Array Adk}(hd:(match dst with | some d=>Aef d n | none=>true)=true)(h:BX P ops n Q rest (updO ρ dst (Ab ρ x)) w):BX P ops n Q (⟨dst, .move x,ty,pos,af,none⟩ :: rest) ρ w:=oS hd (AbL rfl h)
theorem oA{Q:Be}{ops:Array AcM}{n:Nat}{rest:List AcM}{dst:Option Tmp}{x:AcD}{ty:Acz}{pos:String}{af:Array Adk}(hd:(match dst with | some d=>Aef d n | none=>true)=true)(h:BX P ops n Q rest (updO ρ dst (Ab ρ x)) w):BX P ops n Q (⟨dst, .assign x,ty,pos,af,none⟩ :: rest) ρ w:=oS hd (AbX rfl h)
def Hs(ρ:Ah):List (Nat × Acr)->Prop
 | []=>True
 | (t,v) :: r=>ρ t=v/\Hs ρ r
theorem EndF.hold{ds:List Tmp}{ρ ρ' :Ah}(h:EndF ds ρ ρ'):∀(l:List (Nat × Acr)) (_:Hs ρ l) (_:(l.all fun p=> !ds.contains p.1)=true),Hs ρ' l
 | [],_,_=>trivial
 | (t,v) :: r,hl,hd=>by
  rw[List.all_cons,AcZ]at hd;exact⟨h.at_ hl.1 (by simpa using hd.1),EndF.hold h r hl.2 hd.2⟩
theorem Yv{Q:Be}{ops:Array AcM}{n:Nat}(l:List (Nat × Acr))(hF:Hs ρ l)(h:∀ρ',Hs ρ' l->Q .normal ρ' w):BX P ops n Q [] ρ w:=oZ (h ρ hF)
theorem Br{w0 w w' :Acs}{v v' :Acr}{b:Nat}{e:Acz}{z n:Nat}{xs:List Acr}(h:Ext w0 w)(g:Grew w w' v v')(ho:w.ownsRow b e z v n xs)(hb:w0.heap.size<=b):Ext w0 w' :=
 Below.grown h g.by_ h.size (fun k hk=>Acw hb (ho.lt k hk).1)
theorem AV{w w' :Acs}{v v' :Acr}{g:Nat}{o:Obj}(h:w.heap[g]? =some o)(gr:Grew w w' v v')(hne:v.ownBlock≠some g):w'.heap[g]? =some o:=
 (gr.by_.block g (Adg.1 h).1 (fun e=>hne e.symm)).trans h
theorem Bd{w:Acs}{v:Acr}{b:Nat}{e:Acz}{z n:Nat}{xs:List Acr}{g:Nat}(ho:w.ownsRow b e z v n xs)(hg:g<b):v.ownBlock≠some g:=fun h=>by have:=(ho.lt g h).1;omega
theorem BZ{w:Acs}{v:Acr}{b:Nat}{e:Acz}{z n:Nat}{xs:List Acr}{g:Nat}(ho:w.ownsRow b e z v n xs)(hg:w.heap.size<=g):v.ownBlock≠some g:=fun h=>by have:=(ho.lt g h).2;omega
theorem Ca{w w' :Acs}{v v' :Acr}{g:Nat}(gr:Grew w w' v v')(h:v.ownBlock≠some g)(hg:g<w.heap.size):v'.ownBlock≠some g:=fun h' =>by
 rcases gr.fresh g h' with h1 | h1
 ·exact h h1
 ·omega
theorem EG{w w' :Acs}{v:Acr}{b:Nat}{e:Acz}{z n:Nat}{xs:List Acr}{g:Nat}(ho:w.ownsRow b e z v n xs)(h:w.grownBy w' (some g))(hne:v.ownBlock≠some g):w'.ownsRow b e z v n xs:=
 ho.kept h (.inr hne)
theorem AaT{t e:Acz}(hr:∀(z:Int) (w:Acs),(Ac1 t 1 #[(0, .int .u8 z)]).run P w = .ok (.slice (some ⟨w.heap.size,0,none⟩) 1 1) (w.alloc (.cells #[.int .u8 z] e))){x:AcD}{b:UInt8}(hx:Ab ρ x=B8 b) 
  (hk:∀v w',NewB e w w' v [b]->K v w'):Yk P K ((execOp (Ab ρ) ⟨d, .buildSlice t 1 #[(0,x)],ty,pos,af,gd⟩).run P w):=by
 have hr' :(execOp (Ab ρ) ⟨d, .buildSlice t 1 #[(0,x)],ty,pos,af,gd⟩).run P w = .ok (.value (.slice (some ⟨w.heap.size,0,none⟩) 1 1)) (w.alloc (.cells #[B8 b] e)):=by
  have:=hr (b.toNat:Int) w;unfold execOp;simp only[AcJ,AcL,AcR,hx,AcC];rw[this];rfl
 rw[hr'];exact hk _ _ (Nj w e [b] (by simp))
theorem Abw{t e:Acz}(hr:∀(w:Acs),(Ac1 t 0 #[]).run P w = .ok (.slice (some ⟨w.heap.size,0,none⟩) 0 0) (w.alloc (.cells #[] e))) 
  (hk:∀v w',NewB e w w' v []->K v w'):Yk P K ((execOp (Ab ρ) ⟨d, .buildSlice t 0 #[],ty,pos,af,gd⟩).run P w):=by
 have hr' :(execOp (Ab ρ) ⟨d, .buildSlice t 0 #[],ty,pos,af,gd⟩).run P w = .ok (.value (.slice (some ⟨w.heap.size,0,none⟩) 0 0)) (w.alloc (.cells #[] e)):=by
  unfold execOp;simp only[AcJ,AcR,AcC,hr,AcB,AcE]
 rw[hr'];exact hk _ _ (Nj w e [] (by decide))
theorem Wc{l:AhU}{i:Nat}(hi:i<l.length):(Acv l)[i]? =some (B8 (l.getD i 0)):=by simp[Acv,hi]
theorem Ac{b:Nat}{l:List Acr}{t:Acz}{fr:Nat × Nat}(h:w.heap[b]? =some (.cells l.toArray t fr)){i:Nat}{v:Acr}(hi:l[i]? =some v):w.cell? ⟨b,i,none⟩=some v:=by
 simp[World.cell?,h,hi]
theorem Y1{t' :Acz}{x y:AcD}{g i:Nat}{cs:List Acr}{t:Acz}{v:Acr}(hx:Ab ρ x = .pointer (some ⟨g,i,none⟩))(hy:Ab ρ y=v)(hg:w.heap[g]? =some (.cells cs.toArray t (0,0)))(hi:i<cs.length)(hinfo:(P.info? t').map (·.size)=some 1)(hv:v.cells = #[v])(h1:v.oneCell' =true) 
  (hk:∀w',w'.heap[g]? =some (.cells (cs.set i v).toArray t (0,0))->w.grownBy w' (some g)->w'.heap.size=w.heap.size->K undef w'):Yk P K ((execOp (Ab ρ) ⟨d, .store t' x y,ty,pos,af,gd⟩).run P w):=by
 have hst:=run_storeCells_at P g i t [v] 0 cs.toArray w hg (by simp;omega) (by simpa using h1);have e:(cs.toArray.toList.take (i+0)++ [v]++cs.toArray.toList.drop (i+0+ [v].length))=cs.set i v:=by
  rw[List.set_eq_take_append_cons_drop,if_pos hi];simp
 rw[e]at hst;have hr:(Aft t' (.pointer (some ⟨g,i,none⟩)) v).run P w = .ok () (w.setRow g (cs.set i v).toArray):=by
  cases hq:P.info? t' with
  | none=>simp[hq]at hinfo
  | some q=>
   have hs:q.size=1:=by simp[hq]at hinfo;omega
   simp[Aft,AeZ,storeVar,sizeOf,typeInfo,hq,hv,hs,hst]
 unfold execOp;simp only[hx,hy,hr,AcC,AcB,AcE];exact hk _ (setRow_heap w g cs.toArray _ t (0,0) hg) ⟨rfl,rfl,rfl,by simp,fun k _ hk=>setRow_other w g k _ (fun e=>hk (by rw[e]))⟩ (by simp)
theorem Zb{t' :Acz}{x y:AcD}{g:Nat}{cells cur:Array Acr}{t:Acz}(hx:Ab ρ x = .pointer (some ⟨g,0,none⟩))(hy:Ab ρ y = .agg cells)(hg:w.heap[g]? =some (.cells cur t (0,0)))(hs:cells.size=cur.size)(hi:(P.info? t').map (·.size)=some cells.size)(h1:∀v∈cells.toList,v.oneCell' =true) 
  (hk:∀w',w'.heap[g]? =some (.cells cells t (0,0))->w.grownBy w' (some g)->w'.heap.size=w.heap.size->K undef w'):Yk P K ((execOp (Ab ρ) ⟨d, .store t' x y,ty,pos,af,gd⟩).run P w):=by
 have hr:=GD (P:=P) w g t' cells cur t hg hs hi h1;unfold execOp;simp only[hx,hy,hr,AcC,AcB,AcE];exact hk _ (setRow_heap w g cur cells t (0,0) hg) ⟨rfl,rfl,rfl,by simp,fun k _ hk=>setRow_other w g k _ (fun e=>hk (by rw[e]))⟩ (by simp)
theorem Zs{t' :Acz}{x:AcD}{g:Nat}{cs:Array Acr}{t:Acz}{fr:Nat × Nat}{de:TypeDesc}(hx:Ab ρ x = .pointer (some ⟨g,0,none⟩))(hg:w.heap[g]? =some (.cells cs t fr))(hu:P.underlying t' =some de)(hd:(match de with | .struct _ | .array _ _=>true | _=>false)=true)(hi:(P.info? t').map (·.size)=some cs.size) 
  (hk:K (.agg cs) w):Yk P K ((execOp (Ab ρ) ⟨d, .load t' x,ty,pos,af,gd⟩).run P w):=by
 have hr:=run_loadVar_row w g t t' cs fr de hg hu hd hi;refine AbK (v:= .agg cs) (w' :=w) ?_ hk;unfold execOp;simp[hx,Ahy,AeZ,hr]
theorem DI{b:Nat}{e:Acz}{v:Acr}{l l' :AhU}(h:w.ownsRow b e 1 v l.length (Acv l))(e' :l=l'):w.ownsRow b e 1 v l'.length (Acv l'):=by rw[<-e'];exact h
theorem AA{g:Nat}{l l' :List Acr}{t:Acz}{fr:Nat × Nat}(h:w.heap[g]? =some (.cells l.toArray t fr))(e:l=l'):w.heap[g]? =some (.cells l'.toArray t fr):=by rw[<-e];exact h
theorem Aa0{t e:Acz}(ht:P.underlying t=some (.slice e))(he:∀w' :Acs,(sizeOf e).run P w' = .ok 1 w'){x lo:AcD}{v:Acr}{xs:AhU}(hx:Ab ρ x=v)(h:RB w v xs){k:AdI}{l:Nat}(hlo:Ab ρ lo = .int k (l:Int))(hl:l<=xs.length) 
  (hk:∀v',RB w v' (xs.drop l)->v'.ownBlock=v.ownBlock->K v' w):Yk P K ((execOp (Ab ρ) ⟨d, .slice t x (some lo) none none,ty,pos,af,gd⟩).run P w):=by
 obtain⟨ao,c,⟨hrun,hb⟩,hR⟩:=Ct ht he h (some (.int k l)) none l xs.length hl (Acy _) (.inr ⟨k,rfl⟩) (.inl ⟨rfl,rfl⟩);have hR' :=Z3 (Acy _) hR;rw[List.take_of_length_le (by rw[AcU];exact Acy _)]at hR';refine AbK (v:= .slice ao (xs.length-l) c) (w' :=w) ?_ (hk _ hR' hb);unfold execOp;simp only[hx,hlo,AdP,Aek,hrun,AcC,AcE,AcB]
theorem Aa1{t e:Acz}(ht:P.underlying t=some (.slice e))(he:∀w' :Acs,(sizeOf e).run P w' = .ok 1 w'){x hi:AcD}{v:Acr}{xs:AhU}(hx:Ab ρ x=v)(h:RB w v xs){k:AdI}{n:Nat}(hhi:Ab ρ hi = .int k (n:Int))(hn:n<=xs.length) 
  (hk:∀v',RB w v' (xs.take n)->v'.ownBlock=v.ownBlock->K v' w):Yk P K ((execOp (Ab ρ) ⟨d, .slice t x none (some hi) none,ty,pos,af,gd⟩).run P w):=by
 obtain⟨ao,c,⟨hrun,hb⟩,hR⟩:=Ct ht he h none (some (.int k n)) 0 n (Nat.zero_le _) hn (.inl ⟨rfl,rfl⟩) (.inr ⟨k,rfl⟩);have hR' :=Z3 hn hR;rw[List.drop_zero,Nat.sub_zero]at hR';refine AbK (v:= .slice ao (n-0) c) (w' :=w) ?_ (hk _ hR' hb);unfold execOp;simp only[hx,hhi,AdP,Aek,hrun,AcC,AcE,AcB]
theorem AaJ{t' :Acz}{x:AcD}{g o:Nat}{cs:List Acr}{de:TypeDesc}(hx:Ab ρ x = .pointer (some ⟨g,o,none⟩))(hc:w.rangeAt g o cs)(hu:P.underlying t' =some de)(hd:de.isRow=true)(hi:(P.info? t').map (·.size)=some cs.length) 
  (hk:K (.agg cs.toArray) w):Yk P K ((execOp (Ab ρ) ⟨d, .load t' x,ty,pos,af,gd⟩).run P w):=by
 refine AbK (v:= .agg cs.toArray) (w' :=w) ?_ hk;simp only[execOp,hx,AcC,run_loadAt_mid w g o t' cs de hc hu hd hi,AcB,AcE]
section
variable {Q : Be} {K : Ah -> Acs -> Prop}
theorem tN(h:K ρ w):Ee K Q .normal ρ w:=h
theorem Kl{i:Nat}(h:Q (.exit i) ρ w):Ee K Q (.exit i) ρ w:=h
theorem Ip(h:Q .ret ρ w):Ee K Q .ret ρ w:=h
theorem bN{i:Nat}(h:Q .normal ρ w):CI i Q .normal ρ w:=h
theorem Iq{i:Nat}(h:Q .ret ρ w):CI i Q .ret ρ w:=h
theorem Ir{i:Nat}(h:Q .normal ρ w):CI i Q (.exit i) ρ w:=by
 simp only[CI,if_true];exact h
theorem MS{i j:Nat}(hij:(Af3 j i)=false)(h:Q (.exit j) ρ w):CI i Q (.exit j) ρ w:=by
 simp only[CI];rw[if_neg (fun e=>by subst e;simp at hij)];exact h
end
theorem Du{t:Acz}(h:(match P.underlying t with | some (.struct _)=>true | _=>false)=true):∃fs,P.underlying t=some (.struct fs):=by
 split at h
 ·exact⟨_,‹_›⟩
 ·cases h
theorem PY{t e:Acz}(ht:P.underlying t=some (.pointer e))(a:Option Addr)(w:Acs):(Afa t (.pointer a) (.pointer none)).run P w = .ok a.isNone w:=by
 unfold Afa;rw[show AfI=(AfI-1)+1 from rfl];cases a <;> simp[Aep,run_underlying ht,AcC,AcE]
theorem ZC{t e ty2:Acz}(ht:P.underlying t=some (.pointer e)){x:AcD}{a:Option Addr}(hx:Ab ρ x = .pointer a)(hk:K (.bool a.isNone) w):Yk P K ((execOp (Ab ρ) ⟨d, .binOp .eql t x (.const (.pointer none)) ty2,ty,pos,af,gd⟩).run P w):=by
 have hy:Ab ρ (.const (.pointer none)) = .pointer none:=rfl;refine AbK (v:= .bool a.isNone) (w' :=w) ?_ hk;have hr:=PY ht a w;unfold execOp;simp only[hx,hy];cases a <;> simp[eqGuard,Adb,hr]
theorem Ad{w0 w1 w2:Acs}{g:Nat}(h0:Ext w0 w1)(h:w1.grownBy w2 (some g))(hg:w0.heap.size<=g):Ext w0 w2:=
 Below.grown h0 h h0.size (fun k hk=>by cases hk;exact hg)
end
/-! ### Numbers that are not below 0 -/
section
theorem Bf(t:Acz)(k:AdI)(a b:Nat):Adb .lss t (.int k (a:Int)) (.int k (b:Int))=pure (.bool (decide (a<b))):=by
 simp[Adb,Afj]
theorem EA(t:Acz)(k:AdI)(a b:Nat):Adb .leq t (.int k (a:Int)) (.int k (b:Int))=pure (.bool (decide (a<=b))):=by
 simp[Adb,Afj]
theorem CD(t:Acz)(k:AdI)(a b:Nat):Adb .gtr t (.int k (a:Int)) (.int k (b:Int))=pure (.bool (decide (b<a))):=by
 simp[Adb,Afj]
theorem Fl(t:Acz)(k:AdI)(a b:Nat):Adb .geq t (.int k (a:Int)) (.int k (b:Int))=pure (.bool (decide (b<=a))):=by
 simp[Adb,Afj]
theorem AK(t:Acz)(k:AdI)(a b:Nat):Adb .eql t (.int k (a:Int)) (.int k (b:Int))=pure (.bool (decide (a=b))):=by
 have:((a:Int)==(b:Int))=decide (a=b):=by rw[AeM];simp;omega
 simp[Adb,Afj,this]
theorem Ba(t:Acz)(k:AdI)(a b:Nat):Adb .neq t (.int k (a:Int)) (.int k (b:Int))=pure (.bool (decide (a≠b))):=by
 have:((a:Int) != (b:Int))=decide (a≠b):=by rw[AeM];simp;omega
 simp[Adb,Afj,this]
theorem VN(t:Acz)(k:AdI)(a b:Int):Adb .lss t (.int k a) (.int k b)=pure (.bool (decide (a<b))):=by simp[Adb,Afj]
theorem VO(t:Acz)(k:AdI)(a b:Int):Adb .gtr t (.int k a) (.int k b)=pure (.bool (decide (b<a))):=by simp[Adb,Afj]
theorem X4(t:Acz)(k:AdI)(a b:Int):Adb .eql t (.int k a) (.int k b)=pure (.bool (decide (a=b))):=by
 have:(a==b)=decide (a=b):=by rw[AeM];simp
 simp[Adb,Afj,this]
theorem J1(n:Nat)(h:n<9223372036854775808):IntKind.i64.wrap (n:Int)=(n:Int):=by
 simp only[AhA,Aeg,AeY];have:(n:Int)%(2^64:Int)=n:=by omega
 simp only[this];rw[if_neg];simp;omega
theorem AG(t:Acz)(a b:Nat)(h:a+b<9223372036854775808):Adb .add t (.int .i64 (a:Int)) (.int .i64 (b:Int))=pure (.int .i64 ((a+b:Nat):Int)):=by
 unfold Adb;simp only[ne_eq,not_true_eq_false,if_false,Op.intArith];rw[<-Int.natCast_add,J1 _ h]
theorem Ff(t:Acz)(a b:Nat)(h:a<9223372036854775808)(hb:b<=a):Adb .sub t (.int .i64 (a:Int)) (.int .i64 (b:Int))=pure (.int .i64 ((a-b:Nat):Int)):=by
 unfold Adb;simp only[ne_eq,not_true_eq_false,if_false,Op.intArith];rw[<-Int.natCast_sub hb,J1 _ (by omega)]
theorem YF(t:Acz)(a:Nat)(j:AdI)(n:Nat)(hn:n<64):Adb .shr t (.int .i64 (a:Int)) (.int j (n:Int))=pure (.int .i64 ((a/2^n:Nat):Int)):=by
 unfold Adb;simp only[Op.shift,Aeg];rw[if_neg (by omega),AcX,Ae7 (by omega)];have:(a:Int).fdiv (2^n)=((a/2^n:Nat):Int):=by
  rw[show(2^n:Int)=((2^n:Nat):Int) by simp,Agd _ (Int.natCast_nonneg _)];rfl
 rw[this]
theorem TT(n:Nat)(h:n<18446744073709551616):IntKind.u64.wrap (n:Int)=(n:Int):=by
 simp only[AhA,Aeg,AeY];have:(n:Int)%(2^64:Int)=n:=by omega
 simp only[this];simp
theorem Wd(t:Acz)(a:Nat)(j:AdI)(n:Nat)(hn:n<64):Adb .shr t (.int .u64 (a:Int)) (.int j (n:Int))=pure (.int .u64 ((a/2^n:Nat):Int)):=by
 unfold Adb;simp only[Op.shift,Aeg];rw[if_neg (by omega),AcX,Ae7 (by omega)];have:(a:Int).fdiv (2^n)=((a/2^n:Nat):Int):=by
  rw[show(2^n:Int)=((2^n:Nat):Int) by simp,Agd _ (Int.natCast_nonneg _)];rfl
 rw[this]
theorem We(n:Nat)(h:n<256):IntKind.u8.wrap (n:Int)=(n:Int):=by
 simp only[AhA,Aeg,AeY];have:(n:Int)%(2^8:Int)=n:=by omega
 simp only[this];simp
theorem Xb(k:AdI)(b:UInt8)(h:∀n:Nat,n<256->k.wrap (n:Int)=(n:Int)):k.wrap (b.toNat:Int)=((b.toNat:Nat):Int):=h _ b.toNat_lt
end
variable {P : AcN}
def C0(l1 l2:AhU):List Nat->Bool
 | []=>true
 | i :: r=>if l1.getD i 0=l2.getD i 0 then C0 l1 l2 r else false
theorem It(l1 l2:AhU):∀is:List Nat,C0 l1 l2 is=true↔∀i∈is,l1.getD i 0=l2.getD i 0
 | []=>by simp[C0]
 | i :: r=>by
  have ih:=It l1 l2 r;unfold C0;split
  ·rename_i h
   rw[ih];constructor
   ·intro h2 j hj;rcases Ac8.1 hj with rfl | hj
    ·exact h
    ·exact h2 j hj
   ·exact fun h2 j hj=>h2 j (AdF _ hj)
  ·rename_i h
   constructor
   ·intro h2;cases h2
   ·intro h2;exact absurd (h2 i (by simp)) h
theorem byte_eq(a b:UInt8):((a.toNat:Int)==(b.toNat:Int))=decide (a=b):=by
 rw[AeM];simp;constructor
 ·intro h;exact UInt8.toNat_inj.1 (by omega)
 ·intro h;rw[h]
theorem run_eqArray(w:Acs){t e:Acz}{n d:Nat}(ht:P.underlying t=some (.array n e))(he:P.underlying e=some (.int .u8))(hs:(sizeOf e).run P w = .ok 1 w)(l1 l2:AhU)(h1:l1.length=n)(h2:l2.length=n):
  (Aep (d+1+1) t (.agg (Acv l1).toArray) (.agg (Acv l2).toArray)).run P w = .ok (decide (l1=l2)) w:=by
 have hagg:(isAgg e).run P w = .ok false w:=by
  unfold isAgg;rw[AcC,run_underlying he w];rfl
 have hpart:∀(l:AhU) (i:Nat),i<l.length->(part e (Acv l).toArray (i*1)).run P w = .ok (.int .u8 ((l.getD i 0).toNat:Int)) w:=fun l i hi=>by
  unfold part;rw[AcC,hagg];simp[Acv,hi,AcE]
 have key:∀(is:List Nat),(∀i∈is,i<n)->∀(f:Nat->(Option Bool × Unit)->Sem (ForInStep ((Option Bool × Unit)))),
   (∀i r,i<n->(f i r).run P w=if l1.getD i 0=l2.getD i 0 then .ok (.yield (none,())) w else .ok (.done (some false,())) w) ->
   ∀r,r.1=none->(forIn is r f).run P w = .ok (if C0 l1 l2 is=true then none else some false,()) w:=by
  intro is
  induction is with
  | nil=>
   intro _ f _ r hr;obtain⟨a,b⟩:=r;simp at hr;subst hr;simp[C0,AcE]
  | cons i is ih=>
   intro hi f hf r hr;simp only[List.forIn_cons,AcC,hf i r (hi i (by simp))];by_cases h:l1.getD i 0=l2.getD i 0
   ·rw[if_pos h];simp only[AcB];rw[ih (fun j hj=>hi j (AdF _ hj)) f hf (none,()) rfl];simp only[C0,if_pos h]
   ·rw[if_neg h];simp only[AcB,AcE,C0,if_neg h];rfl
 obtain⟨D,hD⟩:∃D,D=d+1:=⟨_,rfl⟩;rw[<-hD];simp only[Aep,AcC,run_underlying ht,AcB,hs];rw[Std.Legacy.Range.forIn_eq_forIn_range'];have hsz:([:n]:Std.Legacy.Range).size=n:=by simp[Std.Legacy.Range.size]
 rw[hsz,key (Af5 0 n 1) (fun i hi=>by simpa using hi)]
 ·have hiff:=It l1 l2 (Af5 0 n 1);have hl:l1=l2↔C0 l1 l2 (Af5 0 n 1)=true:=by
   rw[hiff];constructor
   ·intro h i _;rw[h]
   ·intro h
    apply List.ext_getElem (by omega)
    intro i hi1 hi2;have:=h i (by simp;omega)
    simpa [hi1,hi2] using this
  by_cases h:l1=l2
  ·rw[hl.1 h,decide_eq_true h];simp[AcE]
  ·have h' :C0 l1 l2 (Af5 0 n 1)=false:=by
    cases hb:C0 l1 l2 (Af5 0 n 1)with
    | false=>rfl
    | true=>exact absurd (hl.2 hb) h
   rw[h',decide_eq_false h];simp[AcE]
 ·intro i r hi;simp only[AcC,hpart l1 i (by omega),hpart l2 i (by omega),AcB,hD,run_equalIn_int w d e .u8 .u8 _ _ he];by_cases h:l1.getD i 0=l2.getD i 0
  ·rw[if_pos h,byte_eq,decide_eq_true h];simp[AcE]
  ·rw[if_neg h,byte_eq,decide_eq_false h];simp[AcE]
 ·rfl
theorem MT(w:Acs){t e:Acz}{n:Nat}(ht:P.underlying t=some (.array n e))(he:P.underlying e=some (.int .u8))(hs:(sizeOf e).run P w = .ok 1 w)(hg:P.eqGuardType P.depth t=false)(l1 l2:AhU)(h1:l1.length=n)(h2:l2.length=n)(x y:AcD):
  (do eqGuard .eql t x y (.agg (Acv l1).toArray) (.agg (Acv l2).toArray);binOp .eql t (.agg (Acv l1).toArray) (.agg (Acv l2).toArray):Sem Acr).run P w = .ok (.bool (decide (l1=l2))) w:=by
 have he2:(eqGuard .eql t x y (.agg (Acv l1).toArray) (.agg (Acv l2).toArray)).run P w = .ok () w:=by
  simp[eqGuard,hg]
 rw[AcC,he2,AcB,run_eql_struct,run_eqArray (d:=9998) w ht he hs l1 l2 h1 h2];rfl
theorem OR{ρ:AcD->Acr}{d:Option Tmp}{x y:AcD}{ty2 tt:Acz}{pos:String}{af:Array Adk}{gd:Option (Nat × Bool)}{w:Acs}{t e:Acz}{n:Nat}(ht:P.underlying t=some (.array n e))(he:P.underlying e=some (.int .u8))(hs:(sizeOf e).run P w = .ok 1 w)(hg:P.eqGuardType P.depth t=false){l1 l2:AhU}(h1:l1.length=n)(h2:l2.length=n) 
  (hx:ρ x = .agg (Acv l1).toArray) (hy:ρ y = .agg (Acv l2).toArray):(execOp ρ ⟨d, .binOp .eql t x y ty2,tt,pos,af,gd⟩).run P w = .ok (.value (.bool (decide (l1=l2)))) w:=by
 have h:=MT (P:=P) w ht he hs hg l1 l2 h1 h2 x y;simp only[execOp,hx,hy];rw[AcC,h];rfl
theorem Aan{w w' :Acs}(h:Ext w w'){a:Addr}{v:Acr}(hc:w.cell? a=some v):w'.cell? a=some v:=by
 rw[Below.cell h (AdE w a hc)];exact hc
theorem Reads.keep{w w' :Acs}{z n:Nat}{v:Acr}{xs:List Acr}(h:Reads w z v n xs)(k:Ext w w'):Reads w' z v n xs:=by
 obtain⟨h1,ao,cap,rfl,h2,h3,h4,h5⟩:=h;exact⟨h1,ao,cap,rfl,h2,h3,h4,fun a ha j u hu=>Aan k (h5 a ha j u hu)⟩
theorem RB.nil(w:Acs):RB w (.slice none 0 0) []:=⟨rfl,none,0,rfl,Acy _,by simp[maxLen],fun _=>⟨rfl,rfl⟩,fun a h=>by cases h⟩
theorem RB.lt{w:Acs}{v:Acr}{l:AhU}(h:RB w v l)(hl:0<l.length){b:Nat}(hb:v.ownBlock=some b):b<w.heap.size:=by
 obtain⟨b',off,cap,rfl,-,-,h1,-⟩:=h.open_ hl;simp[Adc]at hb;omega
theorem RB.slice{w:Acs}{v:Acr}{l:AhU}(h:RB w v l):∃ao n c,v = .slice ao n c:=by
 obtain⟨h1,ao,cap,rfl,-⟩:=h;exact⟨ao,_,cap,rfl⟩
section
variable {P : AcN} {K : Acr -> Acs -> Prop} {ρ : Ah} {w : Acs} {d : Option Tmp} {ty : Acz} {pos : String} {af : Array Adk} {gd : Option (Nat × Bool)}
theorem Aat{t e ty2:Acz}{n:Nat}(ht:P.underlying t=some (.array n e))(he:P.underlying e=some (.int .u8))(hs:∀w:Acs,(sizeOf e).run P w = .ok 1 w)(hg:P.eqGuardType P.depth t=false){x y:AcD}{l1 l2:AhU}(hx:Ab ρ x = .agg (Acv l1).toArray)(hy:Ab ρ y = .agg (Acv l2).toArray)(h1:l1.length=n)(h2:l2.length=n) 
  (hk:K (.bool (decide (l1=l2))) w):Yk P K ((execOp (Ab ρ) ⟨d, .binOp .eql t x y ty2,ty,pos,af,gd⟩).run P w):=
 AbK (OR ht he (hs w) hg h1 h2 hx hy) hk
theorem Aad{t e ty2:Acz}{n:Nat}(ht:P.underlying t=some (.array n e))(he:P.underlying e=some (.int .u8))(hs:∀w:Acs,(sizeOf e).run P w = .ok 1 w)(hg:P.eqGuardType P.depth t=false){x y:AcD}{l1 l2:AhU}(hx:Ab ρ x = .agg (Acv l1).toArray)(hy:Ab ρ y = .agg (Acv l2).toArray)(h1:l1.length=n)(h2:l2.length=n) 
  (hk:K (.bool (decide (l1≠l2))) w):Yk P K ((execOp (Ab ρ) ⟨d, .binOp .neq t x y ty2,ty,pos,af,gd⟩).run P w):=by
 have he2:(eqGuard .neq t x y (.agg (Acv l1).toArray) (.agg (Acv l2).toArray)).run P w = .ok () w:=by
  simp[eqGuard,hg]
 have heq:(Afa t (.agg (Acv l1).toArray) (.agg (Acv l2).toArray)).run P w = .ok (decide (l1=l2)) w:=run_eqArray (d:=9998) w ht he (hs w) l1 l2 h1 h2;have hb:(!decide (l1=l2))=decide (l1≠l2):=by simp
 refine AbK (v:= .bool (decide (l1≠l2))) (w' :=w) ?_ hk;unfold execOp;simp only[hx,hy,AcC,he2,AcB,Adb,heq,AcE,hb]
end
section
variable {P : AcN} {K : Acr -> Acs -> Prop} {ρ : Ah} {w : Acs} {d : Option Tmp} {ty : Acz} {pos : String} {af : Array Adk} {gd : Option (Nat × Bool)}
theorem ZQ{t:Acz}(ht:P.underlying t=some .string){x y:AcD}{l:AhU}{k:AdI}{i:Nat}(hx:Ab ρ x=St l)(hy:Ab ρ y = .int k (i:Int))(hi:i<l.length)(hk:K (B8 (l.getD i 0)) w):Yk P K ((execOp (Ab ρ) ⟨d, .index t x y,ty,pos,af,gd⟩).run P w):=by
 refine AbK (v:=B8 (l.getD i 0)) (w' :=w) ?_ hk;have hb:(⟨l.toArray⟩:ByteArray)[i]? =some (l.getD i 0):=by
  rw[getElem?_pos (⟨l.toArray⟩:ByteArray) i (show i<l.toArray.size by simpa using hi)];show some (l.toArray[i]'(by simpa using hi))=_;simp[hi]
 unfold execOp;simp only[hx,hy,Instr.index,asIntOf,AcC,AcE,AcB,run_underlying ht];rw[if_pos (by omega),AcX,hb];rfl
theorem Fg(l:AhU):(⟨l.toArray⟩:ByteArray).toList=l:=by
 rw[ByteArray.toList_eq]
theorem VP(l m:AhU):((⟨l.toArray⟩:ByteArray).toList==(⟨m.toArray⟩:ByteArray).toList)=decide (l=m):=by
 rw[Fg,Fg,AeM];simp
theorem ZR{op:BinOp}(hop:op = .eql\/op = .neq){t ty2:Acz}{x y:AcD}{l m:AhU}(hx:Ab ρ x=St l)(hy:Ab ρ y=St m)(b:Bool)(hb:b=match op with | .eql=>decide (l=m) | _=>decide (l≠m))(hk:K (.bool b) w):Yk P K ((execOp (Ab ρ) ⟨d, .binOp op t x y ty2,ty,pos,af,gd⟩).run P w):=by
 refine AbK (v:= .bool b) (w' :=w) ?_ hk;subst hb;have hn:(!decide (l=m))=decide (l≠m):=by simp
 unfold execOp;rcases hop with rfl | rfl
 ·simp only[hx,hy,eqGuard,Adb,Af6,VP,AcC,AcE];rfl
 ·simp only[hx,hy,eqGuard,Adb,Af6,VP,hn,AcC,AcE];rfl
theorem Abp{t ty2:Acz}{x y:AcD}{l m:AhU}(hx:Ab ρ x=St l)(hy:Ab ρ y=St m)(hb:l.length+m.length<=9223372036854775807)(hk:K (St (l++m)) w):Yk P K ((execOp (Ab ρ) ⟨d, .binOp .add t x y ty2,ty,pos,af,gd⟩).run P w):=
 Aba hx hy hb hk
theorem Zz{t:Acz}(ht:P.underlying t=some .string){x:AcD}{l:AhU}(hx:Ab ρ x=St l)(hk:K (NI l.length) w):Yk P K ((execOp (Ab ρ) ⟨d, .call ⟨.builtin .len,#[x],#[t]⟩,ty,pos,af,gd⟩).run P w):=by
 have hs:(⟨l.toArray⟩:ByteArray).size=l.length:=by show l.toArray.size=_;simp
 exact Abc ht hx (by rw[hs];exact hk)
theorem Yk.extract{x:AcD}{vs:List Acr}{i:Nat}{v:Acr}(hx:Ab ρ x = .tuple vs.toArray)(hv:vs[i]? =some v)(hk:K v w):Yk P K ((execOp (Ab ρ) ⟨d, .extract x i,ty,pos,af,gd⟩).run P w):=by
 refine AbK (v:=v) (w' :=w) ?_ hk;unfold execOp;simp[hx,Instr.extract,hv]
abbrev AbG:=@Yk.extract
theorem Fm{x0 y0:Acr}(h0:x0=y0): [x0]= [y0]:=by rw[h0]
theorem B4{x0 x1 y0 y1:Acr}(h0:x0=y0)(h1:x1=y1): [x0,x1]= [y0,y1]:=by rw[h0,h1]
theorem PZ{x0 x1 x2 y0 y1 y2:Acr}(h0:x0=y0)(h1:x1=y1)(h2:x2=y2): [x0,x1,x2]= [y0,y1,y2]:=by rw[h0,h1,h2]
theorem X5{x0 x1 x2 x3 y0 y1 y2 y3:Acr}(h0:x0=y0)(h1:x1=y1)(h2:x2=y2)(h3:x3=y3): [x0,x1,x2,x3]= [y0,y1,y2,y3]:=by rw[h0,h1,h2,h3]
theorem Zq{f:Aed}(hp:Plain P f){c:AcD}{args:Array AcD}{at_:Array Acz}{caps:Array Acr}(hc:Ab ρ c = .func (.func f) #[] caps)(vs:Array Acr)(hv:args.map (Ab ρ)++caps=vs) 
  (h:Calls P f vs w fun e w' =>∃v,e = .returned v/\K v w'):Yk P K ((execOp (Ab ρ) ⟨d, .call ⟨.value c,args,at_⟩,ty,pos,af,gd⟩).run P w):=by
 subst hv;refine Yk.enter (f:=f) (args:=args.map (Ab ρ)++caps) (w' :=w) ?_ h;unfold execOp;simp[resolve,hc,Deferred.ofValue,invoke,hp _ w]
theorem Zl{f:Fn}{caps:Array AcD}{vs:Array Acr}(hv:caps.map (Ab ρ)=vs)(hk:K (.func f #[] vs) w):Yk P K ((execOp (Ab ρ) ⟨d, .makeFunc f #[] caps,ty,pos,af,gd⟩).run P w):=by
 refine AbK (v:= .func f #[] vs) (w' :=w) ?_ hk;unfold execOp;simp[Instr.makeFunc,hv]
theorem Abe{t ty2:Acz}(ht:P.underlying t=some .bool){x y:AcD}{a b:Bool}(hx:Ab ρ x = .bool a)(hy:Ab ρ y = .bool b)(hk:K (.bool (a==b)) w):Yk P K ((execOp (Ab ρ) ⟨d, .binOp .eql t x y ty2,ty,pos,af,gd⟩).run P w):=by
 have hr:(Afa t (.bool a) (.bool b)).run P w = .ok (a==b) w:=by
  unfold Afa;rw[show AfI=(AfI-1)+1 from rfl];simp[Aep,run_underlying ht,AcC,AcE]
 refine AbK (v:= .bool (a==b)) (w' :=w) ?_ hk;unfold execOp;simp[hx,hy,eqGuard,Adb,hr]
theorem ZD{e:Acz}{x:AcD}{v:Acr}(hx:Ab ρ x=v)(hv:v.cells = #[v]) 
  (hk:∀n w',w.heap.size=n->w'.heap[n]? =some (.cells ([v]:List Acr).toArray e (0,0))->Ext w w' ->w'.heap.size=n+1->K (.pointer (some ⟨n,0,none⟩)) w'):Yk P K ((execOp (Ab ρ) ⟨d, .box e x,ty,pos,af,gd⟩).run P w):=by
 have hr:(execOp (Ab ρ) ⟨d, .box e x,ty,pos,af,gd⟩).run P w = .ok (.value (.pointer (some ⟨w.heap.size,0,none⟩))) (w.alloc (.cells #[v] e)):=by
  show((Instr.box e (Ab ρ x)).run P w).andThen (fun v w=>AgK (Next.value v) w)=_;rw[hx];simp[Instr.box,newVar,hv];rfl
 rw[hr];exact hk _ _ rfl (heap_alloc_new w _) ((Adp _ _).alloc (Acy _) _) (by simp)
end
theorem CE{w:Acs}{b:Nat}{e:Acz}{z n:Nat}{v:Acr}{xs:List Acr}(h:w.ownsRow b e z v n xs):v.cells = #[v]/\v.oneCell' =true:=by
 rcases h.2 with ⟨rfl,_⟩ | ⟨g,cap,cur,rfl,-⟩ <;> exact⟨rfl,rfl⟩
theorem RB.one{w:Acs}{v:Acr}{l:AhU}(h:RB w v l):v.cells = #[v]/\v.oneCell' =true:=by
 obtain⟨-,ao,cap,rfl,-⟩:=h;exact⟨rfl,rfl⟩
abbrev Aco:=@RB.one
/-! ### Bits of numbers that are not below 0 -/
theorem Iu(t:Acz)(a b:Nat)(ha:a<256)(hb:b<256):Adb .and t (.int .u8 (a:Int)) (.int .u8 (b:Int))=pure (.int .u8 ((a&&&b:Nat):Int)):=by
 unfold Adb;simp only[ne_eq,not_true_eq_false,if_false,Op.intBits,Aeg,BitVec.ofInt_natCast];have h1:(Ae1 8 a&&&Ae1 8 b).toNat=a&&&b:=by
  rw[BitVec.toNat_and,AfB,AfB,AfJ (by omega),AfJ (by omega)]
 show pure (Value.int .u8 (IntKind.u8.wrap (((Ae1 8 a&&&Ae1 8 b).toNat:Nat):Int)))=_;rw[h1,We _ (Nat.lt_of_le_of_lt Nat.and_le_left ha)]
def RG{α:Type}(k:Nat)(enc:α->List Acr)(w:Acs)(v:Acr)(l:List α):Prop:=(∀x∈l,(enc x).length=k)/\Reads w k v l.length (l.flatMap enc)
def OG{α:Type}(base:Nat)(t:Acz)(k:Nat)(enc:α->List Acr)(w:Acs)(v:Acr)(l:List α):Prop:=(∀x∈l,(enc x).length=k)/\w.ownsRow base t k v l.length (l.flatMap enc)
def PR(cs:List Acr)(v:Acr)(w:Acs):Prop:=∃b o,v = .pointer (some ⟨b,o,none⟩)/\w.rangeAt b o cs
section
variable {α : Type} {k base : Nat} {t : Acz} {enc : α -> List Acr} {w w' : Acs} {v x : Acr} {l : List α} {cs : List Acr}
theorem RG.keep(h:RG k enc w v l)(e:Ext w w'):RG k enc w' v l:=⟨h.1,h.2.keep e⟩
theorem OG.keep(h:OG base t k enc w v l)(e:Ext w w'):OG base t k enc w' v l:=⟨h.1,AbW _ _ _ _ _ _ _ _ h.2 e⟩
theorem OG.kept{g:Nat}(h:OG base t k enc w v l)(e:w.grownBy w' (some g))(hne:v.ownBlock≠some g):OG base t k enc w' v l:=⟨h.1,EG h.2 e hne⟩
abbrev AbH:=@OG.kept
theorem Y5(h:RG k enc w v l)(e:x=v):RG k enc w x l:=by rw[e];exact h
theorem ZP(h:OG base t k enc w v l)(e:x=v):OG base t k enc w x l:=by rw[e];exact h
theorem PR.keep(h:PR cs v w)(e:Ext w w'):PR cs v w' :=by
 obtain⟨b,o,h1,h2⟩:=h;exact⟨b,o,h1,fun j u hu=>Aan e (h2 j u hu)⟩
abbrev Ab2:=@PR.keep
theorem Zj(h:PR cs v w)(e:x=v):PR cs x w:=by rw[e];exact h
theorem RG.nil(k:Nat)(enc:α->List Acr)(w:Acs):RG k enc w (.slice none 0 0) []:=⟨by simp,by simp,none,0,rfl,Acy _,by simp[maxLen],fun _=>⟨rfl,rfl⟩,fun a h=>by cases h⟩
theorem OG.nil(base:Nat)(t:Acz)(k:Nat)(enc:α->List Acr)(w:Acs):OG base t k enc w (.slice none 0 0) []:=⟨by simp,Ad1 w base t k⟩
abbrev AbQ:=@OG.nil
theorem RG.one(h:RG k enc w v l):v.cells = #[v]/\v.oneCell' =true:=by
 obtain⟨-,-,ao,cap,rfl,-⟩:=h;exact⟨rfl,rfl⟩
abbrev AbJ:=@RG.one
theorem RG.len(h:RG k enc w v l):∃ao c,v = .slice ao l.length c:=by
 obtain⟨-,-,ao,cap,rfl,-⟩:=h;exact⟨ao,cap,rfl⟩
theorem YY(h:OG base t k enc w v l):RG k enc w v l:=by
 refine⟨h.1,h.2.1,?_⟩;have h' :=h.2;rcases h.2.2 with ⟨rfl,h0⟩ | ⟨g,cap,cur,rfl,hbg,hg,hnc,hcm,hcs,htake⟩
 ·exact⟨none,0,by rw[h0],by omega,by simp[maxLen],fun _=>⟨h0,rfl⟩,fun a ha=>by cases ha⟩
 ·exact⟨some ⟨g,0,none⟩,cap,rfl,hnc,hcm,(fun h=>by cases h),(fun a ha j u hu=>by cases ha;exact h'.cells rfl j u hu)⟩
theorem Ht(h:∀x∈l,(enc x).length=k):(l.flatMap enc).length=l.length*k:=by
 induction l with
 | nil=>simp
 | cons a r ih=>
  rw[Adm,Acx,ih (fun x hx=>h x (by simp[hx])),h a (by simp),AcK,AdN];omega
theorem J2(d:α):∀(l:List α),(∀x∈l,(enc x).length=k)->∀i,i<l.length->∀j u,(enc (l.getD i d))[j]? =some u->(l.flatMap enc)[i*k+j]? =some u
 | [],_,i,hi,_,_,_=>by simp at hi
 | a :: r,h,0,_,j,u,hu=>by
  have hj:=(AcW.1 hu).1;simp only[List.getD_cons_zero]at hu hj;rw[Adm,Ae2,Aec,AdM hj];exact hu
 | a :: r,h,i+1,hi,j,u,hu=>by
  simp only[List.getD_cons_succ]at hu;have ih:=J2 d r (fun x hx=>h x (by simp[hx])) i (by simpa using hi) j u hu;rw[Adm,AdD (by rw[h a (by simp),AdN];omega),h a (by simp)];rw[show(i+1)*k+j-k=i*k+j by rw[AdN];omega];exact ih
theorem RG.rangeAt(d:α)(h:RG k enc w v l)(hk:0<k){i:Nat}(hi:i<l.length):∃b o c,v = .slice (some ⟨b,o,none⟩) l.length c/\w.rangeAt b (o+i*k) (enc (l.getD i d)):=by
 obtain⟨h1,h2,ao,cap,rfl,h3,h4,h5,h6⟩:=h;cases ao with
 | none=>have:=(h5 rfl).1;omega
 | some a=>
  obtain⟨b,o,sp⟩:=a;have hx:l.getD i d∈l:=by
   rw[AcA,AcG hi];exact AdX hi
  have hc:∀j u,(enc (l.getD i d))[j]? =some u->w.cell? ((⟨b,o,sp⟩:Addr).add (i*k+j))=some u:=fun j u hu=>h6 _ rfl _ _ (J2 d l h1 i hi j u hu);have e:=h1 (l.getD 0 d) (by rw[AcA,AcG (by omega)];exact AdX _);have h0:=h6 _ rfl _ _ (J2 d l h1 0 (by omega) 0 ((enc (l.getD 0 d))[0]'(by omega)) (by rw[AcG]));have hsp:sp=none:=by
   have:=World.cell?_spot h0
   simpa [AeO] using this
  subst hsp;refine⟨b,o,cap,rfl,fun j u hu=> ?_⟩;have:=hc j u hu;rw[AdU]at this;rw[Aeq];exact this
end
section
variable {P : AcN} {K : Acr -> Acs -> Prop} {ρ : Ah} {w : Acs} {d : Option Tmp} {ty : Acz} {pos : String} {af : Array Adk} {gd : Option (Nat × Bool)}
variable {α : Type} {k : Nat} {enc : α -> List Acr} {l : List α}
theorem Zd{t e:Acz}(ht:P.underlying t=some (.slice e))(he:∀w' :Acs,(sizeOf e).run P w' = .ok k w')(a:0<k){x y:AcD}(dd:α)(h:RG k enc w (Ab ρ x) l){kd:AdI}{i:Nat}(hy:Ab ρ y = .int kd (i:Int))(hi:i<l.length) 
  (hk:∀v,PR (enc (l.getD i dd)) v w->K v w):Yk P K ((execOp (Ab ρ) ⟨d, .indexAddr t x y,ty,pos,af,gd⟩).run P w):=by
 obtain⟨b,o,c,hv,hr⟩:=h.rangeAt dd a hi;refine AbK (v:= .pointer (some ⟨b,o+i*k,none⟩)) (w' :=w) ?_ (hk _ ⟨b,_,rfl,hr⟩);have hE:P.elem t=e:=by simp[Program.elem,ht]
 have hr:=run_indexAt_slice (P:=P) w t ⟨b,o,none⟩ l.length c kd (i:Int) (by rw[hE];exact ht);rw[if_pos (by omega),hE,he]at hr;unfold execOp;simp only[hv,hy,AcC,hr,AcB,AcE];simp[AdU]
theorem Y8{t e:Acz}(ht:P.underlying t=some (.slice e)){x:AcD}{w0:Acs}(h:RG k enc w0 (Ab ρ x) l)(hk:K (NI l.length) w):Yk P K ((execOp (Ab ρ) ⟨d, .call ⟨.builtin .len,#[x],#[t]⟩,ty,pos,af,gd⟩).run P w):=by
 obtain⟨ao,c,hv⟩:=h.len;exact Aac ht hv hk
theorem Y3{t' :Acz}{x:AcD}{cs:List Acr}{de:TypeDesc}(h:PR cs (Ab ρ x) w)(hu:P.underlying t' =some de)(hd:de.isRow=true)(hi:(P.info? t').map (·.size)=some cs.length) 
  (hk:K (.agg cs.toArray) w):Yk P K ((execOp (Ab ρ) ⟨d, .load t' x,ty,pos,af,gd⟩).run P w):=by
 obtain⟨b,o,hx,hr⟩:=h;exact AaJ hx hr hu hd hi hk
theorem Zy{s:Acz}{f off n:Nat}(hf:AC P s f off){x:AcD}{cs:List Acr}(h:PR cs (Ab ρ x) w)(hk:∀v,PR ((cs.drop off).take n) v w->K v w):Yk P K ((execOp (Ab ρ) ⟨d, .fieldAddr s x f,ty,pos,af,gd⟩).run P w):=by
 obtain⟨b,o,hx,hr⟩:=h;refine AbD hf hx (hk _ ⟨b,o+off,rfl,fun j v hv=> ?_⟩);rw[Aes]at hv;split at hv
 ·rw[AeI]at hv;have:=hr _ _ hv;rw[<-Aeq]at this;exact this
 ·cases hv
theorem PR.cell{cs:List Acr}{v u:Acr}(h:PR cs v w)(hc:cs[0]? =some u):PCell u v w:=by
 obtain⟨b,o,hx,hr⟩:=h;exact⟨_,hx,by have:=hr 0 u hc;simpa using this⟩
theorem RG.src{tx e' :Acz}(hk:P.underlying tx=some (.slice e')){v:Acr}(h1:∀x∈l,∀u∈enc x,u.oneCell' =true)(h:RG k enc w v l):Src P k tx v l.length (l.flatMap enc) w:=by
 obtain⟨h0,h2,ao,cap,rfl,h3,h4,h5,h6⟩:=h;cases ao with
 | none=>
  obtain⟨h7,rfl⟩:=h5 rfl;have:l= []:=Adn h7;subst this;exact Src.ofNil w hk 0
 | some a=>exact Src.ofSlice w hk a _ cap _ h2 (h6 a rfl) (fun u hu=>by
   obtain⟨x,hx,hxu⟩:=List.mem_flatMap.1 hu;exact h1 x hx u hxu)
theorem Zr(s x:AcD){t tx e e' :Acz}(base:Nat)(z:Acr)(bytes:Nat)(ht:P.underlying t=some (.slice e))(hi:(P.info? e).map (fun i=>(i.zero,i.size,i.bytes))=some (some z,k,bytes))(hzs:z.cells.size=k)(hu:P.underlying tx=some (.slice e')) 
  (l m:List α) (hown:OG base e k enc w (Ab ρ s) l) (hsrc:RG k enc w (Ab ρ x) m) (h1:∀x∈m,∀u∈enc x,u.oneCell' =true) (hb:l.length+m.length<=281474976710656) (hbb:(l.length+m.length)*bytes<=140737488355328) (hbase:base<=w.heap.size)
  (h:∀v' w',OG base e k enc w' v' (l++m)->Grew w w' (Ab ρ s) v' ->K v' w'):Yk P K ((execOp (Ab ρ) ⟨d, .call ⟨.builtin .append,#[s,x],#[t,tx]⟩,ty,pos,af,gd⟩).run P w):=
 Yk.append s x base e z k bytes ht hi hzs l.length (l.flatMap enc) hown.2 m.length (m.flatMap enc) (hsrc.src hu h1) (by unfold maxLen;omega) hbb hbase fun v' w' ho g=>h v' w' ⟨fun x hx=>(Adf.1 hx).elim (hown.1 x) (hsrc.1 x),by rw[Acx,List.flatMap_append];exact ho⟩ g
theorem Aao{w:Acs}{b:Nat}{x:α}{t:Acz}{fr:Nat × Nat}(hl:(enc x).length=k)(hb:w.heap[b]? =some (.cells (enc x).toArray t fr)):RG k enc w (.slice (some ⟨b,0,none⟩) 1 1) [x]:=
 ⟨by simpa using hl,by simpa using hl,some ⟨b,0,none⟩,1,rfl,Acy _,by simp[maxLen],(fun h=>by cases h),fun a ha j u hu=>by
  cases ha;rw[AdU,Aec];exact Ac hb (by simpa using hu)⟩
end
theorem Cb{α:Type}{l:List α}{i:Nat}(d:α)(h:i<l.length):l.getD i d∈l:=by
 rw[AcA,AcG h];exact AdX h
theorem OG.low{α:Type}{b b' k:Nat}{t:Acz}{enc:α->List Acr}{w:Acs}{v:Acr}{l:List α}(h:OG b t k enc w v l)(hb:b' <=b):OG b' t k enc w v l:=⟨h.1,AJ h.2 hb⟩
abbrev AbP:=@OG.low
section
variable {P : AcN}
theorem AaK{K:Acr->Acs->Prop}{ρ:Tmp->Acr}{t e:Acz}{n:Nat}(ht:P.underlying t=some (.array n e))(he:∀w' :Acs,(sizeOf e).run P w' = .ok 1 w'){x:AcD}{d:Option Tmp}{ty:Acz}{pos:String}{af:Array Adk}{gd:Option (Nat × Bool)}{w:Acs}{b o:Nat} 
  (hx:Ab ρ x = .pointer (some ⟨b,o,none⟩)) (hk:K (.slice (some ⟨b,o,none⟩) n n) w):Yk P K ((execOp (Ab ρ) ⟨d, .slice t x none none none,ty,pos,af,gd⟩).run P w):=by
 refine AbK (v:= .slice (some ⟨b,o,none⟩) n n) (w' :=w) ?_ hk;have hE:P.elem t=e:=by simp[Program.elem,ht]
 have hN:P.arrayLen t=n:=by simp[Program.arrayLen,ht]
 have hr:=run_sliceAt_array_all (P:=P) (w:=w) (t:=t) (a:=⟨b,o,none⟩) (by rw[hE,hN];exact ht);rw[hE,he,hN]at hr;unfold execOp;simp only[hx,Aek,AcC,hr,AcB,AcE];simp[slicedAt,AdU]
end
section
variable {P : AcN} {K : Acr -> Acs -> Prop} {ρ : Ah} {w : Acs} {d : Option Tmp} {ty : Acz} {pos : String} {af : Array Adk} {gd : Option (Nat × Bool)}
theorem Zv{t' :Acz}{x y:AcD}{g o:Nat}{a m z cells:List Acr}{t:Acz}(hx:Ab ρ x = .pointer (some ⟨g,o,none⟩))(hy:Ab ρ y = .agg cells.toArray)(hg:w.heap[g]? =some (.cells (a++m++z).toArray t (0,0)))(ha:a.length=o)(hm:m.length=cells.length)(hi:(P.info? t').map (·.size)=some cells.length)(h1:∀v∈cells,v.oneCell' =true) 
  (hk:∀w',w'.heap[g]? =some (.cells (a++cells++z).toArray t (0,0))->w.grownBy w' (some g)->w'.heap.size=w.heap.size->K undef w'):Yk P K ((execOp (Ab ρ) ⟨d, .store t' x y,ty,pos,af,gd⟩).run P w):=by
 have hst:=run_storeCells_at P g o t cells 0 (a++m++z).toArray w hg (by simp;omega) h1;have e:((a++m++z).toArray.toList.take (o+0)++cells++(a++m++z).toArray.toList.drop (o+0+cells.length))=a++cells++z:=by
  have b:(a++m++z).take o=a:=by rw[AcV,<-ha,AdJ];rfl
  have c:(a++m++z).drop (o+cells.length)=z:=List.drop_left' (by rw[Acx];omega);rw[List.toList_toArray,AfP,b,c]
 rw[e]at hst;have hr:(Aft t' (.pointer (some ⟨g,o,none⟩)) (.agg cells.toArray)).run P w = .ok () (w.setRow g (a++cells++z).toArray):=by
  cases hq:P.info? t' with
  | none=>simp[hq]at hi
  | some i=>
   have hsz:cells.length=i.size:=by simp[hq]at hi;omega
   simp[Aft,AeZ,storeVar,sizeOf,typeInfo,hq,Value.cells,hsz]at hst ⊢;simp[hst]
 unfold execOp;simp only[hx,hy,hr,AcC,AcB,AcE];exact hk _ (setRow_heap w g (a++m++z).toArray _ t (0,0) hg) ⟨rfl,rfl,rfl,by simp,fun k _ hk=>setRow_other w g k _ (fun e=>hk (by rw[e]))⟩ (by simp)
theorem Aau{α:Type}{k:Nat}{enc:α->List Acr}{t e:Acz}(hr:∀(w:Acs),(Ac1 t 0 #[]).run P w = .ok (.slice (some ⟨w.heap.size,0,none⟩) 0 0) (w.alloc (.cells #[] e))) 
  (hk:∀v w',OG w.heap.size e k enc w' v []->Ext w w' ->K v w'):Yk P K ((execOp (Ab ρ) ⟨d, .buildSlice t 0 #[],ty,pos,af,gd⟩).run P w):=by
 have hr' :(execOp (Ab ρ) ⟨d, .buildSlice t 0 #[],ty,pos,af,gd⟩).run P w = .ok (.value (.slice (some ⟨w.heap.size,0,none⟩) 0 0)) (w.alloc (.cells #[] e)):=by
  unfold execOp;simp only[AcJ,AcR,AcC,hr,AcB,AcE]
 rw[hr'];refine hk _ _ ⟨fun x hx=>(Adx hx).elim,⟨by simp, .inr ⟨w.heap.size,0,#[],rfl,Acy _,heap_alloc_new w _,Acy _,by simp[maxLen],by simp,by simp⟩⟩⟩ (Below.alloc (Adp _ _) (Acy _) _)
end
theorem FY{w:Acs}{α:Type}{b k:Nat}{e:Acz}{enc:α->List Acr}{v:Acr}{l l' :List α}(h:OG b e k enc w v l)(e' :l=l'):OG b e k enc w v l' :=by rw[<-e'];exact h
theorem G1:Tryz.prog.underlying 43=some (.slice 5):=by kernel_rfl
theorem Xc:Tryz.prog.underlying 9=some .string:=by kernel_rfl
theorem P0:(Tryz.prog.info? 5).map (fun i=>(i.zero,i.size,i.bytes))=some (some (.int .u8 0),1,1):=by kernel_rfl

theorem Ln(w:Acs)(v:Acr)(l:AhU)(hr:RB w v l)(hl:l.length+16<=140737488355328):
  Calls Tryz.prog 103 #[v] w fun e w' =>∃v',e = .returned v' /\NewB 5 w w' v' l:=by
 obtain⟨i0,hi,a,c,f⟩:=info_parts P0;have hsrc:∀w' :Acs,w.grownBy w' none->Src Tryz.prog 1 43 v l.length (Acv l) w' :=fun w' hg=>
  (hr.below (B:=w.heap.size) ((Adp _ _).grown hg (Acy _) (fun k hk=>by cases hk)) rfl).src G1
 have HS:=Lib.hid hsrc;clear hsrc;obtain⟨h1,ao,cap,rfl,h2,h3,h4,h5⟩:=hr;have h:l.length<=140737488355312:=by omega
 clear h1 h4 h5 hl;unfold maxLen at h3
 go_enter Tryz.func103,Tryz.ntmps103
 go_wp2_with (at_make;refine wpList_make_own _ rfl _ _ 43 rfl w.heap.size 5 i0 (.int .u8 0) 1 G1 hi a c _ _ _ (l.length+16) rfl rfl (by omega) ?b1 ?b2 ?b3 ?_)
 case b1=>rw[f];omega
 case b2=>unfold maxLen;omega
 case b3=>exact Acy _
 intro w1 hown hg;have g:=HS.out w1 hg
 go_wp2_with (at_builtin;refine Dh _ rfl _ _ 43 43 rfl w.heap.size 5 i0 (.int .u8 0) 1 1 G1 hi a c f rfl _ _ _ rfl hown _ _ _ rfl g ?c1 ?c2 ?c3 ?_)
 case c1=>unfold maxLen;omega
 case c2=>omega
 case c3=>exact hg.size
 intro v' w2 hown2 hgrow
 go_wp2
 go_ret
 refine⟨v',rfl,by simpa using hown2,Aa hg hgrow.by_ (fun b hb=> ?_)⟩;simp[Adc]at hb;omega
set_option maxRecDepth 100000 in
set_option maxHeartbeats 1000000 in
theorem Km(B n x:Nat)(hx:x<18446744073709551616)(sv:Acr)(xs:List Acr)(w:Acs)(hown:w.ownsRow B 5 1 sv n xs)(hBw:B<=w.heap.size)(hlim:n+10<=140737488355328):
  Calls Tryz.prog 102 #[sv, .int .u64 x] w fun e w' =>∃v',e = .returned v' /\w'.ownsRow B 5 1 v' (n+(AcT x).length) (xs++Acv (AcT x))/\Grew w w' sv v' :=by
 obtain⟨i0,hi,a,b,c⟩:=info_parts P0;have hlen:=Lib.uvarint_length64 hx
 go_enter Tryz.func102,Tryz.ntmps102
 go_wp2
 go_loopw [0,1] (fun vb vx wr=>∃(y:Nat) (pre:AhU),vx = .int .u64 y/\y<=x/\AcT x=pre++AcT y/\wr.ownsRow B 5 1 vb (n+pre.length) (xs++Acv pre)/\Grew w wr sv vb)
  (fun _ vx _=>(intOf vx).toNat)
 case atStart=>exact⟨x,[],rfl,Acy _,rfl,by simpa [Acv] using hown,Acp _ _⟩
 case round=>
  obtain⟨y,pre,rfl,hy,hsplit,hown1,hnx⟩:=hrel;have hpl:pre.length+(AcT y).length<=10:=by
   have h2:=congrArg List.length hsplit;rw[Acx]at h2;omega
  have hyp:=Lib.uvarint_pos y;have hbw:=hnx.by_.size;by_cases h128:128<=y
  ·have hor:bits .or .u8 ((y:Int)%256) 128=((y%128+128:Nat):Int):=by
    rw[Lib.u8_or128_any _ (by omega) (by omega)];omega
   go_wp2_with (at_builtin;refine Dh _ rfl _ _ 43 43 rfl B 5 i0 (.int .u8 0) 1 1 G1 hi a b c rfl _ _ _ rfl (hown1.alloc _) (.slice (some ⟨wr.heap.size,0,none⟩) 1 1) 1 [_] rfl (Rx G1 wr _ _ rfl) ?c1 ?c2 ?c3 ?_)
   case c1=>unfold maxLen;omega
   case c2=>omega
   case c3=>simp;omega
   intro v' w1 hown' hgrow;have hnx1:Grew w w1 sv v' :=(hnx.alloc _).trans hgrow
   go_wp2
   go_roundw
   case rel=>
    refine⟨y/128,pre++ [(y%128+128).toUInt8],by go_num,by omega,by rw[hsplit,Lib.uvarint_big h128];simp,?_,hnx1⟩;have ec:((y%128+128:Nat):Int)=(y:Int)%128+128:=by omega
    rw[Lib.byteCells_snoc pre (by omega),Acx,Ac2,<-Aeq,ec];exact hown'
   case measure=>simp[intOf];omega
  ·have hsm:AcT y= [y.toUInt8]:=Lib.uvarint_small (by omega)
   go_wp2_with (at_builtin;refine Dh _ rfl _ _ 43 43 rfl B 5 i0 (.int .u8 0) 1 1 G1 hi a b c rfl _ _ _ rfl (hown1.alloc _) (.slice (some ⟨wr.heap.size,0,none⟩) 1 1) 1 [_] rfl (Rx G1 wr _ _ rfl) ?d1 ?d2 ?d3 ?_)
   case d1=>unfold maxLen;omega
   case d2=>omega
   case d3=>simp;omega
   intro v' w1 hown' hgrow;have hnx1:Grew w w1 sv v' :=(hnx.alloc _).trans hgrow
   go_wp2
   go_ret
   refine⟨v',rfl,?_,hnx1⟩;rw[hsplit,hsm,Lib.byteCells_snoc pre (by omega),Acx,Ac2,<-Aeq];exact hown'
theorem Id(n:Nat)(h:n<9223372036854775808):(AcT n).length<=9:=Lib.uvarint_length 8 n (Nat.lt_of_lt_of_le h (by decide))

theorem Ps(w:Acs)(v:Acr)(l:AhU)(hr:RB w v l)(hl:l.length+16<=140737488355328)(n:Nat)(hn:n<=9223372036854775807):
  Calls Tryz.prog 56 #[v, .int .i64 n] w fun e w' =>∃v',e = .returned (.tuple #[v', .int .i64 0])/\NewB 5 w w' v' (l++AcT n):=by
 go_enter Tryz.func56,Tryz.ntmps56
 go_wp2_with fail
 refine(Ln _ _ l hr hl).mono ?_;rintro e w1 ⟨a,rfl,h1⟩
 go_wp2_with fail
 refine(Km w.heap.size l.length n (by omega) a _ w1 h1.own h1.by_.size (by omega)).mono ?_;rintro e w2 ⟨b,rfl,ho,g⟩
 go_wp2_with fail
 go_ret2
 exact⟨b,rfl,h1.more g ho⟩
set_option maxHeartbeats 1600000
abbrev Bs:=AhU
abbrev B6:= { l:AhU // l.length=32 }
def zid:B6:=⟨List.replicate 32 0,rfl⟩
theorem Nk{l:AhU}{r:List Acr}(h:l.length=32){k:Nat}:(Acv l++r)[32+k]? =r[k]? :=by
 rw[AdD (by rw[AcH,h];omega),AcH,h,AeB]
theorem P1{l:AhU}{r:List Acr}{v:Acr}(h:l.length=32){k:Nat}:(Acv l++r).set (32+k) v=Acv l++r.set k v:=by
 rw[List.set_append_right _ _ (by rw[AcH,h];omega),AcH,h,AeB]
theorem I8{l:List Acr}{n:Nat}{v:Acr}(h:l[n]? =some v):(l.drop n).take 1= [v]:=by
 obtain⟨hn,e⟩:=AcW.1 h;rw[List.drop_eq_getElem_cons hn,e];rfl
theorem RE{w:Acs}{g o:Nat}{a z:List Acr}{l:AhU}{t:Acz}{fr:Nat × Nat}(hb:w.heap[g]? =some (.cells (a++Acv l++z).toArray t fr))(ha:a.length=o):w.rangeAt g o (Acv l):=fun j u hu=>by
 refine Ac hb ?_;have hj:=(AcW.1 hu).1;rw[AcV,AdD (by omega),ha,AeB,AdM hj];exact hu
theorem AN{P:AcN}{t:Acz}{k:Nat}{l:List Acr}(hl:l.length=k)(hi:(P.info? t).map (·.size)=some k):(P.info? t).map (·.size)=some l.toArray.size:=by rw[Ac6,hl];exact hi
theorem PR.blk{w:Acs}{g o:Nat}{cs a z:List Acr}{l:AhU}{t:Acz}{fr:Nat × Nat}{v:Acr}(hb:w.heap[g]? =some (.cells cs.toArray t fr))(hm:cs=a++Acv l++z)(hn:a.length=o)(hv:v = .pointer (some ⟨g,o,none⟩)):PR (Acv l) v w:=⟨g,o,hv,RE (by rw[<-hm];exact hb) hn⟩
abbrev AbS:=@PR.blk
theorem ZA{c v:Acr}{w:Acs}(h:PR [c] v w):PCell c v w:=by
 obtain⟨b,o,rfl,h⟩:=h;exact⟨_,rfl,h 0 c rfl⟩
theorem Kn{α:Type}{l:List α}(h:l.length=32):∃(a0 a1 a2 a3 a4 a5 a6 a7 a8 a9 a10 a11 a12 a13 a14 a15 a16 a17 a18 a19 a20 a21 a22 a23 a24 a25 a26 a27 a28 a29 a30 a31:α),l= [a0,a1,a2,a3,a4,a5,a6,a7,a8,a9,a10,a11,a12,a13,a14,a15,a16,a17,a18,a19,a20,a21,a22,a23,a24,a25,a26,a27,a28,a29,a30,a31]:=by
 match l,h with
 | [a0,a1,a2,a3,a4,a5,a6,a7,a8,a9,a10,a11,a12,a13,a14,a15,a16,a17,a18,a19,a20,a21,a22,a23,a24,a25,a26,a27,a28,a29,a30,a31],_=>exact⟨a0,a1,a2,a3,a4,a5,a6,a7,a8,a9,a10,a11,a12,a13,a14,a15,a16,a17,a18,a19,a20,a21,a22,a23,a24,a25,a26,a27,a28,a29,a30,a31,rfl⟩
theorem DV{x y:AhU}(hx:x.length=32)(hy:y.length=32):(Acv x).toArray.size=(Acv y).toArray.size:=by simp[Acv,hx,hy]
section
variable {P : AcN} {K : Acr -> Acs -> Prop} {ρ : Ah} {w : Acs} {d : Option Tmp} {ty : Acz} {pos : String} {af : Array Adk} {gd : Option (Nat × Bool)}
theorem AaU{op:BinOp}(hop:op = .lss\/op = .geq){t ty2:Acz}{x y:AcD}{l m:AhU}(hx:Ab ρ x=St l)(hy:Ab ρ y=St m)(b:Bool)(hb:b=match op with | .lss=>Op.bytesLess l m | _=> !(Op.bytesLess l m))(hk:K (.bool b) w):Yk P K ((execOp (Ab ρ) ⟨d, .binOp op t x y ty2,ty,pos,af,gd⟩).run P w):=by
 refine AbK (v:= .bool b) (w' :=w) ?_ hk;subst hb;unfold execOp;rcases hop with rfl | rfl
 ·simp only[hx,hy,eqGuard,Adb,Af6,Fg,AcC,AcE];rfl
 ·simp only[hx,hy,eqGuard,Adb,Af6,Fg,AcC,AcE];rfl
end
structure Av where
 kind:UInt8
 name:Bs
 old:B6
 new:B6
def updC(x:Av):List Acr:=B8 (x.kind) :: St (x.name) :: (Acv x.old.1++(Acv x.new.1))
theorem CF(x:Av):(updC x).length=66:=by simp[updC,AcH,(x.old).2,(x.new).2]
theorem G2{x:Av}:∀u∈updC x,u.oneCell' =true:=by
 intro u hu;simp only[updC,Ac8,Adf,Adx,or_false]at hu;rcases hu with rfl | rfl | hu | hu
 ·rfl
 ·rfl
 ·exact Ax _ u hu
 ·exact Ax _ u hu
theorem Fu(x:Av):(updC x)[0]? =some (B8 (x.kind)):=by
 rfl
theorem DW(x:Av):(updC x)[1]? =some (St (x.name)):=by
 rfl
theorem Xd(x:Av)(v:Bs):(updC x).set 1 (St (v))=updC ({ x with name:=v }):=by
 rfl
theorem Xe(x:Av):((updC x).drop 1).take 1= [St (x.name)]:=by
 exact I8 (DW x)
def G3(x:Av):List Acr:=B8 (x.kind) :: St (x.name) :: []
def Ko(x:Av):List Acr:=Acv x.new.1
theorem Et(x:Av):updC x=G3 x++Acv x.old.1++Ko x:=by simp[updC,G3,Ko]
theorem EY(x:Av):(G3 x).length=2:=by simp[G3,AcH]
theorem Xf(x:Av)(v:B6):G3 x++Acv v.1++Ko x=updC ({ x with old:=v }):=(Et ({ x with old:=v })).symm
def G4(x:Av):List Acr:=B8 (x.kind) :: St (x.name) :: Acv x.old.1
def Kp(x:Av):List Acr:= []
theorem C1(x:Av):updC x=G4 x++Acv x.new.1++Kp x:=by simp[updC,G4,Kp]
theorem C8(x:Av):(G4 x).length=34:=by simp[G4,AcH,(x.old).2]
theorem Xg(x:Av)(v:B6):G4 x++Acv v.1++Kp x=updC ({ x with new:=v }):=(C1 ({ x with new:=v })).symm
structure A7 where
 kind:UInt8
 name:Bs
 old:B6
 new:B6
 note:Bs
def entC(x:A7):List Acr:=B8 (x.kind) :: St (x.name) :: (Acv x.old.1++(Acv x.new.1++(St (x.note) :: [])))
theorem C5(x:A7):(entC x).length=67:=by simp[entC,AcH,(x.old).2,(x.new).2]
theorem F5{x:A7}:∀u∈entC x,u.oneCell' =true:=by
 intro u hu;simp only[entC,Ac8,Adf,Adx,or_false]at hu;rcases hu with rfl | rfl | hu | hu | rfl
 ·rfl
 ·rfl
 ·exact Ax _ u hu
 ·exact Ax _ u hu
 ·rfl
theorem RF(x:A7):(entC x)[0]? =some (B8 (x.kind)):=by
 rfl
theorem Xh(x:A7)(v:UInt8):(entC x).set 0 (B8 (v))=entC ({ x with kind:=v }):=by
 rfl
theorem RH(x:A7):(entC x)[1]? =some (St (x.name)):=by
 rfl
theorem Xi(x:A7)(v:Bs):(entC x).set 1 (St (v))=entC ({ x with name:=v }):=by
 rfl
def G5(x:A7):List Acr:=B8 (x.kind) :: St (x.name) :: []
def Kq(x:A7):List Acr:=Acv x.new.1++(St (x.note) :: [])
theorem Nl(x:A7):entC x=G5 x++Acv x.old.1++Kq x:=by simp[entC,G5,Kq]
theorem RI(x:A7):(G5 x).length=2:=by simp[G5,AcH]
theorem Xj(x:A7)(v:B6):G5 x++Acv v.1++Kq x=entC ({ x with old:=v }):=(Nl ({ x with old:=v })).symm
def G6(x:A7):List Acr:=B8 (x.kind) :: St (x.name) :: Acv x.old.1
def Kr(x:A7):List Acr:=St (x.note) :: []
theorem Nn(x:A7):entC x=G6 x++Acv x.new.1++Kr x:=by simp[entC,G6,Kr]
theorem RJ(x:A7):(G6 x).length=34:=by simp[G6,AcH,(x.old).2]
theorem Xk(x:A7)(v:B6):G6 x++Acv v.1++Kr x=entC ({ x with new:=v }):=(Nn ({ x with new:=v })).symm
theorem Ks(x:A7):(entC x)[66]? =some (St (x.note)):=by
 unfold entC;show(Acv x.old.1++_)[32+32]? =_;rw[Nk x.old.2];show(Acv x.new.1++_)[32+0]? =_;rw[Nk x.new.2];rfl
theorem Xl(x:A7)(v:Bs):(entC x).set 66 (St (v))=entC ({ x with note:=v }):=by
 unfold entC;refine congrArg (AgN _) ?_;refine congrArg (AgN _) ?_;show(Acv x.old.1++_).set (32+32) _=_;rw[P1 x.old.2];refine congrArg (Acv x.old.1 ++ ·) ?_;show(Acv x.new.1++_).set (32+0) _=_;rw[P1 x.new.2];refine congrArg (Acv x.new.1 ++ ·) ?_;rfl
structure AI where
 name:Bs
 id:B6
def nmdC(x:AI):List Acr:=St (x.name) :: Acv x.id.1
theorem BG(x:AI):(nmdC x).length=33:=by simp[nmdC,AcH,(x.id).2]
theorem DM{x:AI}:∀u∈nmdC x,u.oneCell' =true:=by
 intro u hu;simp only[nmdC,Ac8,Adf,Adx,or_false]at hu;rcases hu with rfl | hu
 ·rfl
 ·exact Ax _ u hu
theorem EZ(x:AI):(nmdC x)[0]? =some (St (x.name)):=by
 rfl
theorem No(x:AI):((nmdC x).drop 0).take 1= [St (x.name)]:=by
 exact I8 (EZ x)
def Ku(x:AI):List Acr:=St (x.name) :: []
def RK(x:AI):List Acr:= []
theorem G7(x:AI):nmdC x=Ku x++Acv x.id.1++RK x:=by simp[nmdC,Ku,RK]
theorem G8(x:AI):(Ku x).length=1:=by simp[Ku,AcH]
theorem Kv(x:AI):((nmdC x).drop 1).take 32=Acv x.id.1:=by
 rw[G7,AcV,<-G8 x,List.drop_left,AdJ (by rw[AcH,x.id.2])]
structure Aq where
 branches:List AI
 tags:List AI
 head:Bs
 at_:B6
 log:List A7
structure X6 where
 branches:Acr
 tags:Acr
 log:Acr
abbrev Af:=Aq × X6
def refsC(x:Af):List Acr:=x.2.branches :: x.2.tags :: St (x.1.head) :: (Acv x.1.at_.1++(x.2.log :: []))
theorem Am(x:Af):(refsC x).length=36:=by simp[refsC,AcH,(x.1.at_).2]
theorem Bc{x:Af}(h0:x.2.branches.oneCell' =true)(h1:x.2.tags.oneCell' =true)(h2:x.2.log.oneCell' =true):∀u∈refsC x,u.oneCell' =true:=by
 intro u hu;simp only[refsC,Ac8,Adf,Adx,or_false]at hu;rcases hu with rfl | rfl | rfl | hu | rfl
 ·exact h0
 ·exact h1
 ·rfl
 ·exact Ax _ u hu
 ·exact h2
theorem CZ(x:Af):(refsC x)[0]? =some (x.2.branches):=by
 rfl
theorem G9(x:Af)(v:Acr)(l:List AI):(refsC x).set 0 (v)=refsC (({ x.1 with branches:=l },{ x.2 with branches:=v })):=by
 rfl
theorem Dp(x:Af):(refsC x)[1]? =some (x.2.tags):=by
 rfl
theorem Ha(x:Af)(v:Acr)(l:List AI):(refsC x).set 1 (v)=refsC (({ x.1 with tags:=l },{ x.2 with tags:=v })):=by
 rfl
theorem EN(x:Af):(refsC x)[2]? =some (St (x.1.head)):=by
 rfl
theorem Lo(x:Af)(v:Bs):(refsC x).set 2 (St (v))=refsC (({ x.1 with head:=v },x.2)):=by
 rfl
def EO(x:Af):List Acr:=x.2.branches :: x.2.tags :: St (x.1.head) :: []
def F6(x:Af):List Acr:=x.2.log :: []
theorem DN(x:Af):refsC x=EO x++Acv x.1.at_.1++F6 x:=by simp[refsC,EO,F6]
theorem Ef(x:Af):(EO x).length=3:=by simp[EO,AcH]
theorem Lp(x:Af)(v:B6):EO x++Acv v.1++F6 x=refsC (({ x.1 with at_:=v },x.2)):=(DN (({ x.1 with at_:=v },x.2))).symm
theorem B0(x:Af):(refsC x)[35]? =some (x.2.log):=by
 unfold refsC;show(Acv x.1.at_.1++_)[32+0]? =_;rw[Nk x.1.at_.2];rfl
theorem F7(x:Af)(v:Acr)(l:List A7):(refsC x).set 35 (v)=refsC (({ x.1 with log:=l },{ x.2 with log:=v })):=by
 unfold refsC;refine congrArg (AgN _) ?_;refine congrArg (AgN _) ?_;refine congrArg (AgN _) ?_;show(Acv x.1.at_.1++_).set (32+0) _=_;rw[P1 x.1.at_.2];refine congrArg (Acv x.1.at_.1 ++ ·) ?_;rfl
structure Rd where
 b:Bs
 at_:Int
structure YL where
 b:Acr
abbrev Dq:=Rd × YL
def BN(x:Dq):List Acr:=x.2.b :: .int .i64 (x.1.at_) :: []
theorem CL(x:Dq):(BN x).length=2:=by simp[BN,AcH]
theorem Cc(x:Dq):(BN x)[0]? =some (x.2.b):=by
 rfl
theorem BS(x:Dq):(BN x)[1]? =some (.int .i64 (x.1.at_)):=by
 rfl
theorem Dj(x:Dq)(v:Int):(BN x).set 1 (.int .i64 (v))=BN (({ x.1 with at_:=v },x.2)):=by
 rfl
abbrev Ay:Av:=⟨0,[],zid,zid⟩
abbrev At:A7:=⟨0,[],zid,zid,[]⟩
abbrev dNmd:AI:=⟨[],zid⟩
open Go.ChangeShapes Go.WideShapes Go.ChangeAt Go.RowKit Go.Deep
section
variable {H : Type} (enc : Acz × Acr -> H) (P : AcN) (W : Acs)
def Opn{α:Type}(t:Acz)(f:α->List Acr)(OK:α->Prop):Prop:=
 ∀fuel cs (x:DataW H × List MemPlace),Agq enc P W 0 (fun _=>true) true fuel t cs=some x->∃a,cs=f a/\OK a
end
section
variable {H : Type} {enc : Acz × Acr -> H} {P : AcN} {W : Acs}
theorem Opn.u8{t:Acz}(ht:P.underlying t=some (.int .u8)):Opn enc P W t (fun b:UInt8=> [B8 b]) (fun _=>True):=fun fuel cs x h=>by
 obtain⟨n,rfl,-,hw⟩:=Ag8 ht h;have hb:0<=n/\n<=255:=by simpa [Lit.wf,AgY,AgZ,AeY,Aeg] using hw
 refine⟨UInt8.ofNat n.toNat,?_,trivial⟩
 congr 2
 simp;omega
theorem Opn.i64{t:Acz}(ht:P.underlying t=some (.int .i64)):Opn enc P W t (fun z:Int=> [.int .i64 z]) (fun z=> -9223372036854775808<=z/\z<=9223372036854775807):=fun fuel cs x h=>by
 obtain⟨n,rfl,-,hw⟩:=Ag8 ht h;exact⟨n,rfl,by simpa [Lit.wf,AgY,AgZ,AeY,Aeg] using hw⟩
theorem Aav{t:Acz}(ht:P.underlying t=some .string):Opn enc P W t (fun l:Bs=> [St l]) (fun l=>l.length<=9223372036854775807):=fun fuel cs x h=>by
 obtain⟨s,rfl,-,hs⟩:=DataW.trod_string ht h;refine⟨s.data.toList,by simp,?_⟩;have:s.data.size<=9223372036854775807:=Acw hs (by decide)
 simpa using this
theorem Opn.id{t e:Acz}(ht:P.underlying t=some (.array 32 e))(he:P.underlying e=some (.int .u8))(hc:P.cellsOf e=1)(hn:P.cellsOf t=32):Opn enc P W t (fun b:B6=>Acv b.1) (fun _=>True):=fun fuel cs x h=>by
 obtain⟨l,hl,rfl⟩:=TM ht he hc hn h;exact⟨⟨l,hl⟩,rfl,trivial⟩
theorem Opn.bytes{t e:Acz}(ht:P.underlying t=some (.slice e))(he:P.underlying e=some (.int .u8))(hc:P.cellsOf e=1):Opn enc P W t (fun v:Acr × Bs=> [v.1]) (fun v=>RB W v.1 v.2):=fun fuel cs x h=>by
 obtain⟨c,l,rfl,h1,-⟩:=ON ht he hc h;exact⟨(c,l),rfl,h1⟩
theorem LL{α:Type}{k:Nat}{f:α->List Acr}(d:α):∀(l:List α),(∀x∈l,(f x).length=k)->∀i r,r<k->i<l.length->(l.flatMap f)[i*k+r]? =(f (l.getD i d))[r]?
 | [],_,i,r,_,hi=>by cases hi
 | a :: l,h,0,r,hr,_=>by
  rw[Adm,Ae2,Aec,AdM (by rw[h a (by simp)];exact hr)];rfl
 | a :: l,h,i+1,r,hr,hi=>by
  have ha:=h a (by simp);rw[Adm,AdD (by rw[ha,AdN];omega),ha,show(i+1)*k+r-k=i*k+r by rw[AdN];omega];exact LL d l (fun x hx=>h x (by simp[hx])) i r hr (by simpa using hi)
theorem Iv{α:Type}{k:Nat}{f:α->List Acr}:∀(l:List α),(∀x∈l,(f x).length=k)->(l.flatMap f).length=l.length*k
 | [],_=>by simp
 | a :: l,h=>by rw[Adm,Acx,h a (by simp),Iv l (fun x hx=>h x (by simp[hx])),AcK,AdN];omega
theorem Opn.slice{α:Type}[Inhabited α]{k:Nat}{f:α->List Acr}{OK:α->Prop}{t e:Acz}(ht:P.underlying t=some (.slice e))(hc:P.cellsOf e=k)(hk:0<k)(hE:Opn enc P W e f OK)(hl:∀a,OK a->(f a).length=k):
  Opn enc P W t (fun v:Acr × List α=> [v.1]) (fun v=>RG k f W v.1 v.2/\∀a∈v.2,OK a):=fun fuel cs x h=>by
 rcases open_slice ht h with ⟨rfl,-⟩ | ⟨a,len,cap,m,n,D,Pl,rfl,-,h1,h2,h3,-,h4⟩
 ·exact⟨(_,[]),rfl,RG.nil _ _ _,fun a ha=>by cases ha⟩
 ·have hm:m=cap:=by simpa using h3
  obtain⟨L,hL⟩:=choose_lt (α:=α) (p:=fun i q=>W.cells? 0 (a.add (i*k)) k=some (f q)/\OK q) (fun i (hi:i<len)=>by
   obtain⟨cs',c1,c2⟩:=h4 i (by omega);obtain⟨q,rfl,hq⟩:=hE _ _ _ c2;rw[hc]at c1;exact⟨q,c1,hq⟩)
  have hall:∀x∈(AeE len).map L,(f x).length=k/\OK x:=fun x hx=>by
   obtain⟨i,hi,rfl⟩:=Ado.1 hx;have:=hL i (by simpa using hi);exact⟨hl _ this.2,this.2⟩
  have hlen:((AeE len).map L).length=len:=by simp
  refine⟨(.slice (some a) len cap,(AeE len).map L),rfl,⟨fun x hx=>(hall x hx).1,by rw[Iv _ (fun x hx=>(hall x hx).1)],some a,cap,by rw[hlen],by rw[hlen];exact h1,h2,(fun h=>by cases h),fun a' ha j u hu=> ?_⟩,fun x hx=>(hall x hx).2⟩;cases ha;have hj:j<len*k:=by
   have:=(AcW.1 hu).1
   rwa [Iv _ (fun x hx=>(hall x hx).1),hlen]at this
  have hi:j/k<len:=Nat.div_lt_of_lt_mul (by rw[Agu];exact hj);have hr:j%k<k:=Nat.mod_lt _ hk;have hjk:j/k*k+j%k=j:=by rw[Agu];exact Nat.div_add_mod j k
  rw[<-hjk,LL default _ (fun x hx=>(hall x hx).1) _ _ hr (by rw[hlen];exact hi)]at hu;have hg:((AeE len).map L).getD (j/k) default=L (j/k):=by
   rw[AcA,List.getElem?_map,List.getElem?_range hi];rfl
  rw[hg]at hu;obtain⟨-,-,hcell⟩:=World.cells?_some (hL _ hi).1;have:=hcell (j%k) hr;rw[Gc,hjk,hu]at this;exact this
theorem YM{cs m:List Acr}{o k:Nat}(h:(cs.drop o).take k=m):cs.drop o=m++cs.drop (o+k):=by
 rw[<-h,<-List.drop_drop,List.take_append_drop]
theorem Cq{t ty:Acz}{i o k fuel:Nat}{cs:List Acr}{x:DataW H × List MemPlace}{α:Type}{f:α->List Acr}{OK:α->Prop}(ht:P.underlying t=some (.struct (P.fieldsOf t)))(h:Agq enc P W 0 (fun _=>true) true fuel t cs=some x) 
  (hf:((P.fieldsOf t)[i]?).map (fun f=>(f.type,f.offset))=some (ty,o)) (hk:P.cellsOf ty=k) (hE:Opn enc P W ty f OK):∃a,cs.drop o=f a++cs.drop (o+k)/\OK a:=by
 obtain⟨xs,n,-,-,-,hl,hx⟩:=DataW.trod_struct ht h;obtain⟨g,hg,he⟩:=Option.map_eq_some_iff.1 hf;have h1:=hx i g hg;cases he;have hi:i<xs.length:=by rw[hl];exact(Adg.1 hg).1
 rw[AcG hi,hk]at h1;obtain⟨a,h2,h3⟩:=hE _ _ _ h1;exact⟨a,YM h2,h3⟩
theorem Kw{t:Acz}{fuel:Nat}{cs:List Acr}{x:DataW H × List MemPlace}(ht:P.underlying t=some (.struct (P.fieldsOf t)))(h:Agq enc P W 0 (fun _=>true) true fuel t cs=some x):cs.length=P.cellsOf t:=by
 obtain⟨xs,n,-,-,hl,-,-⟩:=DataW.trod_struct ht h;exact hl
end
def Yp(P:AcN)(K:Acr->Acs->Prop)(J:List PanicEntry->Acs->Prop):Ag9 Next->Prop
 | .ok (.value v) w=>K v w
 | .ok .skip w=>K undef w
 | .ok (.enter f args) w=>Calls P f args w fun e w' =>match e with | .returned v=>K v w' | .panicked ch=>J ch w' | .outgrown=>False
 | .halt (.panic v) w=>J [{ v,recovered:=false }] w
 | _=>False
section
variable {P : AcN} {n : Nat} {Q : Be} {ρ : Ah} {w : Acs}
theorem Yp.ofK{K:Acr->Acs->Prop}{J:List PanicEntry->Acs->Prop}{r:Ag9 Next}(h:Yk P K r):Yp P K J r:=by
 unfold Yk at h;split at h
 ·exact h
 ·exact h
 ·exact h.mono fun e w' hx=>by
   obtain⟨v,rfl,hk⟩:=hx;exact hk
 ·exact h.elim
theorem oP{ops:Array AcM}{rest:List AcM}{dst:Option Tmp}{op:Op}{ty:Acz}{pos:String}{af:Array Adk}(hd:(match dst with | some d=>Aef d n | none=>true)=true) 
  (h:Yp P (fun v w' =>BX P ops n Q rest (updO ρ dst v) w') (fun ch w' =>Q (.panic ch) ρ w') ((execOp (Ab ρ) ⟨dst,op,ty,pos,af,none⟩).run P w)):BX P ops n Q (⟨dst,op,ty,pos,af,none⟩ :: rest) ρ w:=by
 intro a ha;have hdn:∀t,dst=some t->t<n:=fun t ht=>by subst ht;exact AcF hd
 refine wpList_plain rfl fun K hK=> ?_;unfold AeL AeX;rw[ha.eval];have hput:=fun v=>ha.put dst hdn v
 revert h
 generalize (execOp (Ab ρ) ⟨dst,op,ty,pos,af,none⟩).run P w=r
 intro h
 match r,h with
 | .ok (.value v) w',h=>exact hK _ _ (h _ (hput v))
 | .ok .skip w',h=>exact hK _ _ (h _ (hput undef))
 | .halt (.panic v) w',h=>exact⟨ρ,ha,h⟩
 | .ok (.enter f args) w',h=>
  refine Aeo h ?_;intro e w'' hx
  match e,hx with
  | .returned v,hx=>exact hK _ _ (hx _ (hput v))
  | .panicked ch,hx=>exact⟨ρ,ha,hx⟩
theorem Yp.call{f:Aed}{args:Array AcD}{at_:Array Acz}{dst:Option Tmp}{ty:Acz}{pos:String}{af:Array Adk}{gd:Option (Nat × Bool)}{K:Acr->Acs->Prop}{J:List PanicEntry->Acs->Prop}(hp:Plain P f)(vs:List Acr)(hv:args.toList.map (Ab ρ)=vs) 
  (h:Calls P f vs.toArray w fun e w' =>match e with | .returned v=>K v w' | .panicked ch=>J ch w' | .outgrown=>False):Yp P K J ((execOp (Ab ρ) ⟨dst, .call ⟨.value (.func f),args,at_⟩,ty,pos,af,gd⟩).run P w):=by
 subst hv;have hr:=Ik hp (Ab ρ) args.toList at_ dst ty pos af gd w rfl;rw[Array.toArray_toList]at hr;rw[hr];exact h
theorem An{f:Aed}{args:Array Acr}{K:Acr->Acs->Prop}{J:List PanicEntry->Acs->Prop}{A:Acr->Acs->Prop}{B:List PanicEntry->Acs->Prop}(h:Calls P f args w fun e w' =>(∃v,e = .returned v/\A v w')\/∃ch,e = .panicked ch/\B ch w') 
  (hA:∀v w',A v w' ->K v w') (hB:∀ch w',B ch w' ->J ch w'):Calls P f args w fun e w' =>match e with | .returned v=>K v w' | .panicked ch=>J ch w' | .outgrown=>False:=
 h.mono fun e w' hx=>by
  rcases hx with ⟨v,rfl,h1⟩ | ⟨ch,rfl,h1⟩
  ·exact hA v w' h1
  ·exact hB ch w' h1
theorem Yp.panic{dst:Option Tmp}{ty:Acz}{pos:String}{af:Array Adk}{gd:Option (Nat × Bool)}{K:Acr->Acs->Prop}{J:List PanicEntry->Acs->Prop}{x:AcD}{u:Acz}{v:Acr}(hx:Ab ρ x = .iface u v)(h:J [{ v:= .iface u v,recovered:=false }] w):
  Yp P K J ((execOp (Ab ρ) ⟨dst, .panic x,ty,pos,af,gd⟩).run P w):=by
 have hr:(execOp (Ab ρ) ⟨dst, .panic x,ty,pos,af,gd⟩).run P w = .halt (.panic (.iface u v)) w:=by
  simp[execOp,hx,Instr.panic,goPanic]
 rw[hr];exact h
section
variable {Q : Be} {K : Ah -> Acs -> Prop} {ch : List PanicEntry}
theorem GN(h:Q (.panic ch) ρ w):Ee K Q (.panic ch) ρ w:=h
theorem Hb{i:Nat}(h:Q (.panic ch) ρ w):CI i Q (.panic ch) ρ w:=h
end
def C9(P:AcN)(fn:Func)(R:Ending->Acs->Prop):Be
 | .normal,ρ,w | .ret,ρ,w=>∀tmps:Array Acr,(∀t,tmps.getD t undef=ρ t)->∃v,(results fn tmps).run P w = .ok v w/\R (.returned v) w
 | .panic ch,_,w=>R (.panicked ch) w
 | _,_,_=>False
theorem Iw{f:Aed}{fn:Func}{c:Code}{args:List Acr}{R:Ending->Acs->Prop}(hf:P.funcs[f]? =some fn)(hb:fn.body=some c)(m:Nat)(hm:fn.ntmps=m)(hn:args.length<=m) 
  (h:∀ρ,Begun args ρ->Cg P m c (C9 P fn R) ρ w):Calls P f args.toArray w R:=by
 subst hm;refine calls_of_wp hf hb ?_;have hget:∀t,(args.toArray++Aee (fn.ntmps-args.toArray.size) undef).getD t undef=args.getD t undef:=fun t=>by
  simp only[Adi,AcA,Array.getElem?_append,Ac6,Adw];by_cases ht:t<args.length
  ·rw[if_pos ht]
  ·rw[if_neg ht,Ad5 (by omega),Aex];split <;> rfl
 refine wp_mono (h (fun t=>args.getD t undef) ⟨fun _=>rfl⟩ _ ⟨?_,rfl,hget⟩) ?_
 ·simp;omega
 ·rintro e a' w' ⟨ρ',hf',hQ⟩;have fin:(∀tmps:Array Acr,(∀t,tmps.getD t undef=ρ' t)->∃v,(results fn tmps).run P w' = .ok v w' /\R (.returned v) w')->a'.defers= []/\∃v,(results fn a'.tmps).run P w' = .ok v w' /\R (.returned v) w' :=
   fun h=>⟨hf'.defers,h a'.tmps hf'.get⟩
  cases e with
  | normal=>exact fin hQ
  | ret=>exact fin hQ
  | panic ch=>exact⟨hf'.defers,hQ⟩
  | exit _=>exact hQ.elim
  | goto _=>exact hQ.elim
  | outgrown=>exact hQ.elim
theorem EP{fn:Func}{R:Ending->Acs->Prop}(rs:List ResultVar)(hrs:fn.results=rs.toArray)(vs:List Acr)(v:Acr)(hv:Io vs=v)(h:GZ P ρ w rs vs)(hR:R (.returned v) w):C9 P fn R .ret ρ w:=
 fun _ ht=>⟨_,Hr hrs ht h,by rw[hv];exact hR⟩
theorem GE{fn:Func}{R:Ending->Acs->Prop}(rs:List ResultVar)(hrs:fn.results=rs.toArray)(vs:List Acr)(v:Acr)(hv:Io vs=v)(h:GZ P ρ w rs vs)(hR:R (.returned v) w):C9 P fn R .normal ρ w:=
 fun _ ht=>⟨_,Hr hrs ht h,by rw[hv];exact hR⟩
theorem Ao{fn:Func}{R:Ending->Acs->Prop}{ch:List PanicEntry}(h:R (.panicked ch) w):C9 P fn R (.panic ch) ρ w:=h
end
theorem Ai{G:Bool}{v x:Acr}(hx:x=cond G v undef)(h:G=true):x=v:=by rw[hx,h];rfl
theorem Bt{G:Bool}{v:Acr}(h:G=true):v=cond G v undef:=by rw[h];rfl
theorem Bu{G:Bool}{v:Acr}(h:G=false):undef=cond G v undef:=by rw[h];rfl
theorem Yw{G:Bool}{p:Prop}(h:G=false)(k:G=true):p:=by rw[h]at k;cases k
theorem Stab.may{R:Acs->Acs->Prop}{f:BO}{p:Prop}(h:Stab R f):Stab R (fun x w=>p->f x w):=fun x w w' k r e=>h x w w' (k e) r
theorem FZ{a b:Bool}(h:a=true)(k:b=true):(a&&b)=true:=by rw[h,k];rfl
theorem BH{a:Bool}(h:a=false):(!a)=true:=by rw[h];rfl
theorem X7{a:Bool}(h:(!a)=false):a=true:=by revert h;cases a <;> simp
theorem gA(a b:Bool):((a&&b)=true)=(a=true/\b=true):=propext (Bool.and_eq_true_iff)
theorem gB(a:Bool):((!a)=true)=(a=false):=propext (by cases a <;> simp)
theorem gC(a b:Bool):((a||b)=false)=(a=false/\b=false):=propext Bool.or_eq_false_iff
theorem gD(p:Prop)[Decidable p]:(decide p=true)=p:=propext decide_eq_true_iff
theorem gE(p:Prop)[Decidable p]:(decide p=false)=¬p:=propext decide_eq_false_iff_not
theorem X8{a:Bool}(h:(!a)=true):a=false:=by revert h;cases a <;> simp
theorem gT{x:Acr}{c:Bool}(h:x = .bool c):c=true↔x = .bool true:=by
 subst h;exact⟨fun h=>by rw[h],fun h=>by injection h⟩
theorem gF{x:Acr}{c:Bool}(h:x = .bool c):(!c)=true↔x = .bool false:=by
 subst h;cases c <;> simp
theorem FR{x:Acr}{E c:Bool}(h:x=cond E (.bool c) undef):(E&&c)=true↔x = .bool true:=by
 subst h;cases E <;> cases c <;> simp[undef]
theorem Fb{x:Acr}{E c:Bool}(h:x=cond E (.bool c) undef):(E&& !c)=true↔x = .bool false:=by
 subst h;cases E <;> cases c <;> simp[undef]
theorem P2{o:AcM}{ops:Array AcM}{T:Array Acr}{g d:Nat}{want:Bool}(hgd:o.guard=some (g,want))(hg:(ops[g]?).bind (·.dst)=some d)(h:T.getD d undef ≠ .bool want):AdC o (yielded ops T)=false:=by
 simp only[AdC,hgd,yielded,hg];rw[Adi]at h;cases hx:T[d]? with
 | none=>simp[hx]
 | some x=>
  rw[hx]at h;cases x <;> simp[hx]
  rename_i b
  intro hb;exact h (by simp[hb])
section
variable {P : AcN} {n : Nat} {Q : Be} {ρ : Ah} {w : Acs} {K : Acr -> Acs -> Prop} {d : Option Tmp} {ty : Acz} {pos : String} {af : Array Adk} {gd : Option (Nat × Bool)}
theorem Yk.mono{K' :Acr->Acs->Prop}{r:Ag9 Next}(h:Yk P K r)(hk:∀v w,K v w->K' v w):Yk P K' r:=by
 match r,h with
 | .ok (.value v) w,h=>exact hk _ _ h
 | .ok .skip w,h=>exact hk _ _ h
 | .ok (.enter f args) w,h=>exact Aeo h (fun e w ⟨v,a,h⟩=>⟨v,a,hk _ _ h⟩)
abbrev Acd:=@Yk.mono
theorem Ix{ops:Array AcM}{rest:List AcM}{dst:Option Tmp}{op:Op}{g:Nat}{want:Bool}{t:Tmp}{G:Bool}(R:Acr->Acs->Prop)(hd:(match dst with | some d=>Aef d n | none=>true)=true)(hg:(ops[g]?).bind (·.dst)=some t)(hG:G=true↔ρ t = .bool want) 
  (h1:G=true->Yk P R ((execOp (Ab ρ) ⟨dst,op,ty,pos,af,some (g,want)⟩).run P w))
  (h2:∀x w',(G=true->R x w')->(G=false->x=undef/\w' =w)->BX P ops n Q rest (updO ρ dst x) w'):BX P ops n Q (⟨dst,op,ty,pos,af,some (g,want)⟩ :: rest) ρ w:=by
 cases hb:G with
 | true=>
  refine oY hd hg (hG.1 hb) (Acd (h1 hb) ?_);intro x w' h;exact h2 x w' (fun _=>h) (fun e=>by rw[hb]at e;cases e)
 | false=>
  intro a ha;have hdn:∀t,dst=some t->t<n:=fun t ht=>by subst ht;exact AcF hd
  have hw:AdC ⟨dst,op,ty,pos,af,some (g,want)⟩ (yielded ops a.tmps)=false:=P2 rfl hg (fun e=>by
   have:=hG.2 ((ha.get t).symm.trans e);rw[hb]at this;cases this)
  refine wpList_step fun K hK=> ?_;rw[if_neg (by rw[hw];simp)];exact hK _ _ (h2 undef w (fun e=>by rw[hb]at e;cases e) (fun _=>⟨rfl,rfl⟩) _ (ha.put dst hdn undef))
theorem Ae{ops:Array AcM}{rest:List AcM}{dst:Option Tmp}{op:Op}{g:Nat}{want:Bool}{t:Tmp}{G:Bool}(v:Acr)(hd:(match dst with | some d=>Aef d n | none=>true)=true)(hg:(ops[g]?).bind (·.dst)=some t)(hG:G=true↔ρ t = .bool want) 
  (h1:G=true->Yk P (fun x w' =>x=v/\w' =w) ((execOp (Ab ρ) ⟨dst,op,ty,pos,af,some (g,want)⟩).run P w))
  (h2:BX P ops n Q rest (updO ρ dst (cond G v undef)) w):BX P ops n Q (⟨dst,op,ty,pos,af,some (g,want)⟩ :: rest) ρ w:=by
 refine Ix _ hd hg hG h1 fun x w' k1 k2=> ?_;cases hb:G with
 | true=>obtain⟨rfl,rfl⟩:=k1 hb;rw[hb]at h2;exact h2
 | false=>obtain⟨rfl,rfl⟩:=k2 hb;rw[hb]at h2;exact h2
theorem Ch{ops:Array AcM}{rest:List AcM}{dst:Option Tmp}{op:Op}{g:Nat}{want:Bool}{t:Tmp}{G:Bool}(v:Acr)(hd:(match dst with | some d=>Aef d n | none=>true)=true)(hg:(ops[g]?).bind (·.dst)=some t)(hG:G=true↔ρ t = .bool want) 
  (h1:G=true->Yk P (fun x w' =>x=v/\Ext w w') ((execOp (Ab ρ) ⟨dst,op,ty,pos,af,some (g,want)⟩).run P w))
  (h2:∀w',Ext w w' ->BX P ops n Q rest (updO ρ dst (cond G v undef)) w'):BX P ops n Q (⟨dst,op,ty,pos,af,some (g,want)⟩ :: rest) ρ w:=by
 refine Ix _ hd hg hG h1 fun x w' k1 k2=> ?_;cases hb:G with
 | true=>obtain⟨rfl,h⟩:=k1 hb;have:=h2 _ h;rw[hb]at this;exact this
 | false=>obtain⟨rfl,rfl⟩:=k2 hb;have:=h2 _ (AbE _);rw[hb]at this;exact this
theorem DX{ops:Array AcM}{rest:List AcM}{dst:Option Tmp}{op:Op}{g:Nat}{want:Bool}{t:Tmp}{G:Bool}(R:Acr->Prop)(hd:(match dst with | some d=>Aef d n | none=>true)=true)(hg:(ops[g]?).bind (·.dst)=some t)(hG:G=true↔ρ t = .bool want) 
  (h1:G=true->Yk P (fun x w' =>R x/\w' =w) ((execOp (Ab ρ) ⟨dst,op,ty,pos,af,some (g,want)⟩).run P w))
  (h2:∀x,(G=true->R x)->BX P ops n Q rest (updO ρ dst x) w):BX P ops n Q (⟨dst,op,ty,pos,af,some (g,want)⟩ :: rest) ρ w:=by
 refine Ix _ hd hg hG h1 fun x w' k1 k2=> ?_;have e:w' =w:=by
  cases hb:G with
  | true=>exact(k1 hb).2
  | false=>exact(k2 hb).2
 subst e;exact h2 x (fun h=>(k1 h).1)
theorem ZB{c x y:AcD}{a b:Bool}(hc:Ab ρ c = .bool a)(hx:a=true->Ab ρ x = .bool b)(hy:Ab ρ y = .bool false)(hk:K (.bool (a&&b)) w):Yk P K ((execOp (Ab ρ) ⟨d, .pick c x y,ty,pos,af,gd⟩).run P w):=by
 cases a with
 | true=>exact Zi hc (hx rfl) hk
 | false=>exact Zx hc hy hk
theorem ZF{c x y:AcD}{a b:Bool}(hc:Ab ρ c = .bool a)(hx:Ab ρ x = .bool true)(hy:a=false->Ab ρ y = .bool b)(hk:K (.bool (a||b)) w):Yk P K ((execOp (Ab ρ) ⟨d, .pick c x y,ty,pos,af,gd⟩).run P w):=by
 cases a with
 | true=>exact Zi hc hx hk
 | false=>exact Zx hc (hy rfl) hk
theorem Zf{c x y:AcD}{a b:Bool}(hc:Ab ρ c = .bool a)(hx:a=true->Ab ρ x = .bool b)(hy:Ab ρ y = .bool false)(hk:∀r,r=(a&&b)->K (.bool r) w):Yk P K ((execOp (Ab ρ) ⟨d, .pick c x y,ty,pos,af,gd⟩).run P w):=ZB hc hx hy (hk _ rfl)
theorem Ze{c x y:AcD}{a b:Bool}(hc:Ab ρ c = .bool a)(hx:Ab ρ x = .bool true)(hy:a=false->Ab ρ y = .bool b)(hk:∀r,r=(a||b)->K (.bool r) w):Yk P K ((execOp (Ab ρ) ⟨d, .pick c x y,ty,pos,af,gd⟩).run P w):=ZF hc hx hy (hk _ rfl)
theorem DY{ops:Array AcM}{rest:List AcM}{dst:Option Tmp}{op:Op}{g:Nat}{want:Bool}{t:Tmp}{G:Bool}(e:Bool)(hd:(match dst with | some d=>Aef d n | none=>true)=true)(hg:(ops[g]?).bind (·.dst)=some t)(hG:G=true↔ρ t = .bool want) 
 (h1:G=true->Yk P (fun x w' =>x = .bool e/\w' =w) ((execOp (Ab ρ) ⟨dst,op,ty,pos,af,some (g,want)⟩).run P w))
 (h2:∀b,b=e->BX P ops n Q rest (updO ρ dst (cond G (.bool b) undef)) w):BX P ops n Q (⟨dst,op,ty,pos,af,some (g,want)⟩ :: rest) ρ w:=Ae (.bool e) hd hg hG h1 (h2 _ rfl)
variable {l : List AcM} {Φ : Nat -> BO}
theorem A5{C:Nat->Acs->Prop}{R:Nat->Acs->Acs->Prop}{k:Nat}{o:AcM}(g:Nat)(want:Bool)(t:Tmp){G:Bool}(hg:o.guard=some (g,want))(hd:(l[g]?).bind (·.dst)=some t) 
  (hv:∀x w,Kk l Φ ρ k t x w->(G=true↔x = .bool want)) (hu:G=false->∀w,Φ k undef w)
  (h:G=true->∀σ w,C k w->(∀t∈o.looksAt l.toArray,Kk l Φ ρ k t (σ t) w)->Yk P (fun v w' =>R k w w' /\Φ k v w') ((execOp (Ab σ) o).run P w)):PX P l C R Φ ρ k o:=by
 intro σ w hC hl;have hin:t∈o.looksAt l.toArray:=by
  unfold Oper.looksAt;refine AdS _ ?_;rw[hg];simp[hd]
 have hq:=hv _ _ (hl t hin);cases hb:G with
 | true=>
  have:AY l o σ=true:=by
   unfold AY;rw[hg];simp only[hd,hq.1 hb];simp
  rw[if_pos this];exact h hb σ w hC hl
 | false=>
  have:AY l o σ=false:=by
   unfold AY;rw[hg];simp only[hd];cases hx:σ t <;> simp
   rename_i b
   intro e;have:=hq.2 (by rw[hx,e]);rw[hb]at this;cases this
  rw[if_neg (by rw[this];simp)];exact hu hb w
end
theorem Aaw{P:AcN}{K K' :Acr->Acs->Prop}{J J' :List PanicEntry->Acs->Prop}{r:Ag9 Next}(h:Yp P K J r)(hm:∀v w,K v w->K' v w)(hj:∀c w,J c w->J' c w):Yp P K' J' r:=by
 match r,h with
 | .ok (.value v) w',h=>exact hm _ _ h
 | .ok .skip w',h=>exact hm _ _ h
 | .halt (.panic v) w',h=>exact hj _ _ h
 | .ok (.enter f args) w',h=>
  refine Aeo h fun e w'' hx=> ?_
  match e,hx with
  | .returned v,hx=>exact hm _ _ hx
  | .panicked ch,hx=>exact hj _ _ hx
def CO(l:List AcM)(i:Nat):Option Tmp:=l[i]?.bind (·.dst)
def VQ:List Tmp->Bool
 | []=>true
 | a :: r=> !r.contains a&&VQ r
theorem AX{ρ:Ah}{d:Tmp}{v:Acr}:updO ρ (some d) v=Ni ρ d v:=rfl
theorem DZ{ρ:Ah}{d:Tmp}{v:Acr}:Ni ρ d v d=v:=by simp[Ni]
theorem CM{ρ:Ah}{d t:Tmp}{v:Acr}(h:t≠d):Ni ρ d v t=ρ t:=by
 have:Af3 t d=false:=by rw[<-Bool.not_eq_true,Nat.beq_eq];exact h
 simp[Ni,this]
theorem Da{ρ σ:Ah}{o:AcM}{ops:Array AcM}(hs:∀cs b,o.op ≠ .select cs b)(h:∀t∈o.looksAt ops,σ t=ρ t):execOp (Ab σ) o=execOp (Ab ρ) o:=
 execOp_congr o hs fun x hx=>by
  cases x with
  | tmp t=>exact h t (Afl _ (Af9.2 ⟨.tmp t,by simpa using hx,rfl⟩))
  | _=>rfl
section
variable {P : AcN} {n : Nat} {ρ : Ah} {w : Acs} {Q : Be} {l : List AcM} {fs : List (Nat × Tmp × Acr)} {cs : List Nat} {I : Acs -> Prop}
theorem Iy{a:Act}{o:AcM}{K:Act->Acs->Prop}{Q' :Afk->Act->Acs->Prop}(h:Yk P (fun v w' =>K (a.put o.dst v) w') ((execOp a.eval o).run P w)):o.wp P a w K Q' :=by
 unfold AeL AeX
 revert h
 generalize (execOp a.eval o).run P w=r
 intro h
 match r,h with
 | .ok (.value v) w',h=>exact h
 | .ok .skip w',h=>exact h
 | .ok (.enter f args) w',h=>
  refine Aeo h ?_;rintro e w'' ⟨v,rfl,hk⟩;exact hk
theorem MU{a:Act}{o:AcM}{K:Act->Acs->Prop}{Q' :Afk->Act->Acs->Prop}{J:List PanicEntry->Acs->Prop}(h:Yp P (fun v w' =>K (a.put o.dst v) w') J ((execOp a.eval o).run P w))(hJ:∀ch w',J ch w' ->Q' (.panic ch) a w'):o.wp P a w K Q' :=by
 unfold AeL AeX
 revert h
 generalize (execOp a.eval o).run P w=r
 intro h
 match r,h with
 | .ok (.value v) w',h=>exact h
 | .ok .skip w',h=>exact h
 | .halt (.panic v) w',h=>exact hJ _ _ h
 | .ok (.enter f args) w',h=>
  refine Aeo h ?_;intro e w'' hx
  match e,hx with
  | .returned v,hx=>exact hx
  | .panicked ch,hx=>exact hJ _ _ hx
theorem Iz:∀ {l:List Tmp},VQ l=true->l.Nodup
 | [],_=>List.nodup_nil
 | a :: r,h=>by
  unfold VQ at h;rw[AcZ]at h;refine AdK.2 ⟨fun hm=> ?_,Iz h.2⟩;have:=h.1;rw[AdL.2 hm]at this;cases this
end
def looksL(l:List AcM)(j:Nat):List Tmp:=match l[j]? with
 | some q=>q.looksAt l.toArray
 | none=> []
def DJ(l:List AcM)(j:Nat):Bool:=match l[j]? with
 | some q=>q.guard.isSome
 | none=>true
def Dl(l:List AcM)(pf:List Nat)(j:Nat):Bool:=pf.contains j||(match l[j]? with
 | some q=>(match q.op with | .move _ | .assign _=>true | _=>false)
 | none=>false)
def P3(l:List AcM)(m:List Nat)(cs pf fl pre:List Nat)(i:Nat):Bool:=match l[i]? with
 | none=>false
 | some o=>
  (match o.op with | .select .. =>false | _=>true) &&
  ((AeE l.length).all (fun j=> !(m.getD i 0).testBit j||pre.contains j) &&
  (pre.all (fun j=> !cs.contains j||(m.getD i 0).testBit j) &&
  ((!cs.contains i||pre.all fun j=>cs.contains j||(Dl l pf j||(fl.contains j||(m.getD i 0).testBit j))) &&
  ((pre.all fun j=>(cs.contains j&& !DJ l j)||((cs.contains i&&(o.guard.isNone&&(m.getD i 0).testBit j))||(match o.dst with | some d=> !(looksL l j).contains d&&CO l j != some d | none=>true))) &&
  ((cs.contains i&&o.guard.isNone)||(match o.dst with | some d=> !(o.looksAt l.toArray).contains d | none=>cs.contains i))))))
def Kx(l:List AcM)(m:List Nat)(cs pf fl:List Nat):List Nat->List Nat->Bool
 | _,[]=>true
 | pre,i :: r=>P3 l m cs pf fl pre i&&Kx l m cs pf fl (i :: pre) r
def E0(l:List AcM)(cs pf fl ord:List Nat):Bool:=VQ ord&&((AeE l.length).all (fun i=>ord.contains i)&&Kx l (AZ l []) cs pf fl [] ord)
def P4(l:List AcM)(fl r:List Nat)(i:Nat):Bool:=fl.all fun j=>r.contains j||((AZ l []).getD i 0).testBit j
def Lq(l:List AcM)(pf fl:List Nat)(I:Acs->Prop)(w:Acs)(i:Nat)(w' :Acs):Prop:=Dl l pf i=true\/(if i∈fl then I w' else w' =w)
def DA(P:AcN)(l:List AcM)(cs pf fl:List Nat)(J:List PanicEntry->Acs->Prop)(K:Ah->Acs->Prop):List Nat->(Acs->Prop)->Ah->Acs->Prop
 | [],_,ρ,w=>K ρ w
 | i :: r,I,ρ,w=>match l[i]? with
  | none=>False
  | some o=>if AY l o ρ=false then DA P l cs pf fl J K r I (updO ρ o.dst undef) w
   else if i∈cs then Yp P (fun v w' =>∃I' :Acs->Prop,I' w' /\((∀x,I' x->I x)\/P4 l fl r i=true)/\DA P l cs pf fl J K r I' (updO ρ o.dst v) w') J ((execOp (Ab ρ) o).run P w)
   else ∃v,(∀w',Lq l pf fl I w i w' ->Yk P (fun x w'' =>x=v/\w'' =w') ((execOp (Ab ρ) o).run P w'))/\DA P l cs pf fl J K r I (updO ρ o.dst v) w
structure MixAt (l : List AcM) (cs pf fl u : List Nat) (i : Nat) (o : AcM) : Prop where
 sel:∀cs b,o.op ≠ .select cs b
 lin:∀j,j<l.length->((AZ l []).getD i 0).testBit j=true->j∈u
 chain:∀j∈u,j∈cs->((AZ l []).getD i 0).testBit j=true
 loc:i∈cs->∀j∈u,j∉cs->Dl l pf j=true\/j∈fl\/((AZ l []).getD i 0).testBit j=true
 sep:∀j∈u,j∉cs\/DJ l j=true->i∉cs\/DJ l i=true\/((AZ l []).getD i 0).testBit j=false->∀d,o.dst=some d->d∉looksL l j/\CO l j≠some d
 own:i∉cs\/o.guard.isSome=true->∀d,o.dst=some d->d∉o.looksAt l.toArray
 has:i∉cs->∃d,o.dst=some d
theorem Wf{l:List AcM}{cs pf fl u:List Nat}{i:Nat}(h:P3 l (AZ l []) cs pf fl u i=true):∃o,l[i]? =some o/\MixAt l cs pf fl u i o:=by
 unfold P3 at h;cases ho:l[i]? with
 | none=>rw[ho]at h;cases h
 | some o=>
  rw[ho]at h;simp only[AcZ]at h;obtain⟨h1,h2,h3,h4,h5,h6⟩:=h;refine⟨o,rfl,⟨fun c b e=> ?_,fun j hj hb=> ?_,fun j hj hc=> ?_,fun hi j hj hc=> ?_,fun j hj hc hx d hd=> ?_,fun hi d hd=> ?_,fun hi=> ?_⟩⟩
  ·rw[e]at h1;cases h1
  ·have:=Ads.1 h2 j (by simpa using hj);rw[hb]at this
   simpa using this
  ·have:=Ads.1 h3 j hj;rw[AdL.2 hc]at this
   simpa using this
  ·rw[AdL.2 hi]at h4;have h4:∀x,x∈u->x∈cs\/Dl l pf x=true\/x∈fl\/((AZ l [])[i]?.getD 0).testBit x=true:=by simpa using h4
   have:=h4 j hj
   simpa [hc] using this
  ·have:=Ads.1 h5 j hj;rw[hd]at this;have hf:(cs.contains j&& !DJ l j)=false:=by
    rcases hc with hc | hc
    ·have:cs.contains j=false:=by simpa using hc
     rw[this];rfl
    ·rw[hc];simp
   have hf2:(cs.contains i&&(o.guard.isNone&&((AZ l []).getD i 0).testBit j))=false:=by
    rcases hx with hx | hx | hx
    ·have:cs.contains i=false:=by simpa using hx
     rw[this];rfl
    ·unfold DJ at hx;rw[ho]at hx;cases hg:o.guard with
     | none=>simp only[hg]at hx;cases hx
     | some g=>simp
    ·rw[hx];simp
   rw[hf,hf2]at this
   simpa using this
  ·have hf:(cs.contains i&&o.guard.isNone)=false:=by
    rcases hi with hi | hi
    ·have:cs.contains i=false:=by simpa using hi
     rw[this];rfl
    ·cases hg:o.guard with
     | none=>rw[hg]at hi;cases hi
     | some g=>simp
   rw[hf,hd]at h6
   simpa using h6
  ·have hf:cs.contains i=false:=by simpa using hi
   rw[hf]at h6;cases hd:o.dst with
   | none=>rw[hd]at h6;simp at h6
   | some d=>exact⟨d,rfl⟩
theorem LM{l:List AcM}{m cs pf fl:List Nat}:∀ {pre:List Nat} (u:List Nat) {i:Nat} {v:List Nat},Kx l m cs pf fl pre (u++i :: v)=true->P3 l m cs pf fl (u.reverse++pre) i=true
 | pre,[],i,v,h=>by
  unfold Kx at h;rw[Ac9,AcZ]at h;exact h.1
 | pre,x :: u,i,v,h=>by
  rw[Ac3]at h;unfold Kx at h;rw[AcZ]at h;have:=LM u h.2
  simpa using this
theorem MixAt.perm{l:List AcM}{cs pf fl u v:List Nat}{i:Nat}{o:AcM}(e:∀x,x∈u↔x∈v)(h:MixAt l cs pf fl u i o):MixAt l cs pf fl v i o:=
 ⟨h.sel,fun j a b=>(e j).1 (h.lin j a b),fun j a=>h.chain j ((e j).2 a),fun a j b=>h.loc a j ((e j).2 b),fun j a=>h.sep j ((e j).2 a),h.own,h.has⟩
theorem D3{l:List AcM}{cs pf fl u v:List Nat}{i:Nat}(h:E0 l cs pf fl (u++i :: v)=true):∃o,l[i]? =some o/\MixAt l cs pf fl u i o:=by
 unfold E0 at h;rw[AcZ,AcZ]at h;obtain⟨o,ho,k⟩:=Wf (LM u h.2.2);exact⟨o,ho,k.perm (by simp)⟩
theorem EB{l:List AcM}{o:AcM}{ρ σ:Ah}(h:∀t∈o.looksAt l.toArray,σ t=ρ t):AY l o σ=AY l o ρ:=by
 unfold AY;cases hg:o.guard with
 | none=>rfl
 | some g=>
  obtain⟨g,want⟩:=g;simp only;cases hd:(l[g]?).bind (·.dst)with
  | none=>rfl
  | some t=>
   simp only;rw[h t (by
    unfold Oper.looksAt;refine AdS _ ?_;rw[hg];simp[hd])]
theorem Np{a b:List Nat}{x:Nat}(h:(a++b).Nodup)(ha:x∈a)(hb:x∈b):False:=(AeA.1 h).2.2 x ha x hb rfl
theorem OS{a b c d:List Nat}{x:Nat}(h:(a++x :: b).Nodup)(e:a++x :: b=c++x :: d):a=c:=by
 induction a generalizing c with
 | nil=>
  cases c with
  | nil=>rfl
  | cons y c=>
   simp only[Ac9,Ac3,List.cons.injEq]at e;obtain⟨rfl,e⟩:=e;rw[Ac9]at h;exact absurd (by rw[e];simp) (AdK.1 h).1
 | cons y a ih=>
  cases c with
  | nil=>
   simp only[Ac9,Ac3,List.cons.injEq]at e;obtain⟨rfl,e⟩:=e;rw[Ac3]at h;exact absurd (by simp) (AdK.1 h).1
  | cons z c=>
   simp only[Ac3,List.cons.injEq]at e;obtain⟨rfl,e⟩:=e;rw[Ac3]at h;rw[ih (AdK.1 h).2 e]
section
variable {P : AcN} {n : Nat} {ρ : Ah} {w : Acs} {Q : Be} {l : List AcM} {cs pf fl ord : List Nat} {I : Acs -> Prop} {J : List PanicEntry -> Acs -> Prop} {K : Ah -> Acs -> Prop}
def Pend(P:AcN)(l:List AcM)(cs pf fl:List Nat)(I:Acs->Prop)(ρ:Ah)(w:Acs)(i:Nat):Prop:=
 ∃o,l[i]? =some o/\(i∉cs\/DJ l i=true)/\(∀d,o.dst=some d->d∉o.looksAt l.toArray)/\(∀cs b,o.op ≠ .select cs b) /\
  (AY l o ρ=false/\(∀d,o.dst=some d->ρ d=undef) \/
   AY l o ρ=true/\i∉cs/\∃d,o.dst=some d/\∀w',Lq l pf fl I w i w' ->Yk P (fun x w'' =>x=ρ d/\w'' =w') ((execOp (Ab ρ) o).run P w'))
theorem Pend.upd{ρ' :Ah}{i:Nat}(h:Pend P l cs pf fl I ρ w i)(hl:∀t∈looksL l i,ρ' t=ρ t)(hd:∀t,CO l i=some t->ρ' t=ρ t):Pend P l cs pf fl I ρ' w i:=by
 obtain⟨o,ho,h1,h2,h3,h4⟩:=h;have hl' :∀t∈o.looksAt l.toArray,ρ' t=ρ t:=fun t ht=>hl t (by unfold looksL;rw[ho];exact ht);have hd' :∀t,o.dst=some t->ρ' t=ρ t:=fun t ht=>hd t (by unfold CO;rw[ho];exact ht);refine⟨o,ho,h1,h2,h3,?_⟩;rw[EB hl'];rcases h4 with ⟨a,b⟩ | ⟨a,b,d,hd0,c⟩
 ·exact .inl ⟨a,fun d hd0=>(hd' d hd0).trans (b d hd0)⟩
 ·refine .inr ⟨a,b,d,hd0,?_⟩;rw[hd' d hd0,Da h3 hl'];exact c
structure MInv (P : AcN) (l : List AcM) (cs pf fl ord : List Nat) (n : Nat) (J : List PanicEntry -> Acs -> Prop) (K : Ah -> Acs -> Prop) (u r : List Nat) (I : Acs -> Prop) (ρ : Ah) (listed : Array Bool) (a : Act) (w : Acs) : Prop where
 size:listed.size=l.length
 closed:∀i o,l[i]? =some o->On listed i->∀e∈o.after,Adz .any e=true->On listed e.on
 tmps:a.tmps.size=n
 defers:a.defers= []
 split:ord=u++r
 rest:∀i∈r,¬On listed i
 pend:∀i∈u,¬On listed i->Pend P l cs pf fl I ρ w i
 agree:∀t,(∀i∈u,¬On listed i->CO l i≠some t)->a.tmps.getD t undef=ρ t
 holds:I w
 run:DA P l cs pf fl J K r I ρ w
theorem MInv.place(hb:E0 l cs pf fl ord=true){listed:Array Bool}{a:Act}:∀(r u:List Nat) (ρ:Ah),MInv P l cs pf fl ord n J K u r I ρ listed a w ->
  ∃u' r' ρ',MInv P l cs pf fl ord n J K u' r' I ρ' listed a w/\(r' = []\/∃c q o,r' =c :: q/\c∈cs/\l[c]? =some o/\AY l o ρ' =true)
 | [],u,ρ,h=>⟨u,[],ρ,h, .inl rfl⟩
 | i :: r,u,ρ,h=>by
  obtain⟨o,ho,hm⟩:=D3 (h.split▸hb);have hrun:=h.run;unfold DA at hrun;rw[ho]at hrun;simp only at hrun;have hno:¬On listed i:=h.rest i (by simp);have next:∀(v:Acr),(i∉cs\/DJ l i=true)->(∀d,o.dst=some d->d∉o.looksAt l.toArray)->Pend P l cs pf fl I (updO ρ o.dst v) w i->DA P l cs pf fl J K r I (updO ρ o.dst v) w->MInv P l cs pf fl ord n J K (u++ [i]) r I (updO ρ o.dst v) listed a w:=fun v hg hown hp hr=>by
   have hne:∀t,o.dst≠some t->updO ρ o.dst v t=ρ t:=fun t ht=>by
    cases hd:o.dst with
    | none=>rfl
    | some d=>rw[AX,CM (fun e=>ht (by rw[hd,e]))]
   refine⟨h.size,h.closed,h.tmps,h.defers,by rw[h.split];simp,fun j hj=>h.rest j (by simp[hj]),fun j hj hnj=> ?_,fun t ht=> ?_,h.holds,hr⟩
   ·rcases Adf.1 hj with hj | hj
    ·have hpj:=h.pend j hj hnj;obtain⟨oj,hoj,hcj,-⟩:=hpj;have hg' :i∉cs\/DJ l i=true\/((AZ l []).getD i 0).testBit j=false:=hg.elim .inl fun x=> .inr (.inl x);refine(h.pend j hj hnj).upd (fun t ht=>hne t fun e=>(hm.sep j hj hcj hg' t e).1 ht) fun t ht=>hne t fun e=>(hm.sep j hj hcj hg' t e).2 ht
    ·rw[Ada.1 hj];exact hp
   ·have h1:=h.agree t fun j hj=>ht j (by simp[hj]);rw[h1,hne t fun e=>ht i (by simp) hno (by unfold CO;rw[ho];exact e)]
  by_cases hw:AY l o ρ=false
  ·rw[if_pos hw]at hrun;have hgs:o.guard.isSome=true:=by
    cases hg:o.guard with
    | none=>unfold AY at hw;rw[hg]at hw;cases hw
    | some g=>rfl
   have hgb:DJ l i=true:=by unfold DJ;rw[ho];exact hgs
   have hown:=hm.own (.inr hgs);refine MInv.place hb r (u++ [i]) _ (next undef (.inr hgb) hown ⟨o,ho, .inr hgb,hown,hm.sel, .inl ⟨?_,fun d hd=>by rw[hd,AX,DZ]⟩⟩ hrun);rw[<-hw];refine EB fun t ht=> ?_;cases hd:o.dst with
   | none=>rfl
   | some d=>rw[AX,CM (fun e=>hown d hd (by rw[<-e];exact ht))]
  ·rw[if_neg hw]at hrun;have hwt:AY l o ρ=true:=by simpa using hw
   by_cases hc:i∈cs
   ·exact⟨u,i :: r,ρ,h, .inr ⟨i,r,o,rfl,hc,ho,hwt⟩⟩
   ·rw[if_neg hc]at hrun;obtain⟨v,hv,hrun⟩:=hrun;have hown:=hm.own (.inl hc);obtain⟨d,hd⟩:=hm.has hc;have hag:∀t∈o.looksAt l.toArray,updO ρ o.dst v t=ρ t:=fun t ht=>by rw[hd,AX,CM (fun e=>hown d hd (by rw[<-e];exact ht))]
    refine MInv.place hb r (u++ [i]) _ (next v (.inl hc) hown ⟨o,ho, .inl hc,hown,hm.sel, .inr ⟨by rw[EB hag];exact hwt,hc,d,hd,?_⟩⟩ hrun);rw[Da hm.sel hag];intro w' hw';rw[show updO ρ o.dst v d=v by rw[hd,AX,DZ]];exact hv w' hw'
theorem Pt(hg:DR l n=true)(hb:E0 l cs pf fl ord=true):
  ∀(fuel:Nat) (listed:Array Bool) (a:Act) (w:Acs) (u r:List Nat) (I:Acs->Prop) (ρ:Ah),(listed.toList.filter (!·)).length=fuel->MInv P l cs pf fl ord n (fun ch w' =>∀ρ',Q (.panic ch) ρ' w') (fun ρ w=>Q .normal ρ w) u r I ρ listed a w->(r= []\/∃c q o,r=c :: q/\c∈cs/\l[c]? =some o/\AY l o ρ=true) ->
   wpAny P .any l.toArray (fun e a' w' =>∃ρ',Fits n ρ' a' /\Q e ρ' w') fuel listed a w:=by
 have g:=I7 hg;have hall:∀i,i<l.length->i∈ord:=fun i hi=>by
  unfold E0 at hb;rw[AcZ,AcZ]at hb
  simpa using Ads.1 hb.2.1 i (by simpa using hi)
 have hnd:ord.Nodup:=by
  unfold E0 at hb;rw[AcZ]at hb;exact Iz hb.1
 have hlt:∀(i:Nat) (o:AcM),l[i]? =some o->i<l.length:=fun i o ho=>(AcW.1 ho).1
 -- all are done
 have fin:∀(listed:Array Bool) (a:Act) (w:Acs) (u r:List Nat) (I:Acs->Prop) (ρ:Ah),MInv P l cs pf fl ord n (fun ch w' =>∀ρ',Q (.panic ch) ρ' w') (fun ρ w=>Q .normal ρ w) u r I ρ listed a w->(r= []\/∃c q o,r=c :: q/\c∈cs/\l[c]? =some o/\AY l o ρ=true)->(∀i,i<l.length->On listed i)->∃ρ',Fits n ρ' a/\Q .normal ρ' w:=fun listed a w u r I ρ h hr hon=>by
  rcases hr with rfl | ⟨c,q,o,rfl,-,ho,-⟩
  ·refine⟨ρ,⟨h.tmps,h.defers,fun t=>h.agree t fun i hi hni=> ?_⟩,h.run⟩;obtain⟨o,ho,-⟩:=h.pend i hi hni;exact absurd (hon i (hlt i o ho)) hni
  ·exact absurd (hon c (hlt c o ho)) (h.rest c (by simp))
 intro fuel
 induction fuel with
 | zero=>
  intro listed a w u r I ρ hfu h hr;have full:∀i,i<l.length->On listed i:=fun i hi=>by
   have:=FX _ hfu i (by rw[AdZ,h.size];omega);unfold On;simp at this;simp[this]
  refine⟨?_,fin listed a w u r I ρ h hr full⟩;cases hrd:AeG .any l.toArray listed with
  | nil=>rfl
  | cons x xs=>
   exfalso;have hmem:x∈AeG .any l.toArray listed:=by rw[hrd];simp
   obtain⟨h1,o,ho,_⟩:=mem_ready.1 hmem;have hx:x<l.length:=by simpa using (Adg.1 ho).1
   have h2:=full x hx;have hx' :x<listed.size:=h2.lt;unfold On at h2;simp[hx']at h1 h2;rw[h1]at h2;cases h2
 | succ fuel ih=>
  intro listed a w u r I ρ hfu h hr;refine⟨fun hrd=>fin listed a w u r I ρ h hr fun i=> ?_,fun i hi=> ?_⟩
  ·induction i using AfQ with
   | _ i ih2=>
    intro hi;refine Classical.byContradiction fun hno=> ?_;have ho:l[i]? =some l[i]:=AcG hi;have:i∈AeG .any l.toArray listed:=by
     refine mem_ready.2 ⟨?_,l[i],by rw[Adw];exact ho,fun e he hb=> ?_⟩
     ·have hi' :i<listed.size:=by rw[h.size];exact hi
      unfold On at hno;simp[hi']at hno ⊢;exact hno
     ·have hlt:=g.back i _ ho e he hb;exact ih2 e.on hlt (by omega)
    rw[hrd]at this;cases this
  ·obtain⟨h1,o,ho,hall0⟩:=mem_ready.1 hi;have ho' :l[i]? =some o:=by simpa using ho
   have hilt:i<l.length:=hlt i o ho';have hil:i<listed.size:=by rw[h.size];exact hilt
   have hno:¬On listed i:=by
    unfold On;simp[hil]at h1 ⊢;exact h1
   have hball:∀e∈o.after,Adz .any e=true->On listed e.on:=fun e he hb=>hall0 e he hb;have hI:Inv l (fun _=> []) (fun _ _=>True) (fun _ _=>True) (fun _ _ _=>True) a listed a w:=
    ⟨h.size,h.closed,rfl,rfl,fun _ _ _=>trivial,trivial,fun _ _=>rfl,fun _ _ _ _ _ _ _ _=>trivial⟩
   have hmr:∀k,((AZ l []).getD i 0).testBit k=true->On listed k:=fun k hk=>hI.maskReady ho' hball hk;have hcnt:((listed.setIfInBounds i true).toList.filter (!·)).length=fuel:=by
    rw[Afs];have:=GB listed.toList i (by
     simp[hil]at h1;simp[hil,h1])
    omega
   have hcl:∀j oj,l[j]? =some oj->On (listed.setIfInBounds i true) j->∀e∈oj.after,Adz .any e=true->On (listed.setIfInBounds i true) e.on:=fun j oj hj hon e he hb=>by
    rcases(AR hil).1 hon with rfl | hon
    ·obtain rfl:o=oj:=by rw[ho']at hj;exact AcY hj
     exact(AR hil).2 (.inr (hball e he hb))
    ·exact(AR hil).2 (.inr (h.closed j oj hj hon e he hb))
   have hF:Fits n (fun t=>a.tmps.getD t undef) a:=⟨h.tmps,h.defers,fun t=>rfl⟩;have hroom:∀t,o.dst=some t->t<n:=fun t ht=>g.room i o t ho' ht;have hio:i∈ord:=hall i hilt;rw[h.split]at hio;have hun:∀j,¬On (listed.setIfInBounds i true) j->¬On listed j/\j≠i:=fun j hj=>⟨fun x=>hj ((AR hil).2 (.inr x)),fun x=>hj ((AR hil).2 (.inl x))⟩
   -- where it stands in the order
   have hwhere:∃u1 b,ord=u1++i :: b/\(i∈r->u1=u/\r=i :: b)/\(i∈u->∀j∈u,j∈u1\/j=i\/j∈b):=by
    by_cases hir:i∈r
    ·rcases hr with rfl | ⟨c,q,oc,rfl,hc,hoc,-⟩
     ·cases hir
     ·have:i=c:=by
       rcases Ac8.1 hir with x | x
       ·exact x
       ·exfalso;obtain⟨q1,q2,hq⟩:=Ad9 x;have hb' :=hb;rw[h.split,hq,show u++c :: (q1++i :: q2)=(u++c :: q1)++i :: q2 by simp]at hb';obtain⟨o2,f,hm⟩:=D3 hb';exact h.rest c (by simp) (hmr c (hm.chain c (by simp) hc))
      subst this;exact⟨u,q,h.split,fun _=>⟨rfl,rfl⟩,fun _ j hj=> .inl hj⟩
    ·have hiu:i∈u:=(Adf.1 hio).elim id fun x=>absurd x hir;obtain⟨u1,s,hu⟩:=Ad9 hiu;exact⟨u1,s++r,by rw[h.split,hu];simp,fun x=>absurd x hir,fun _ j hj=>by rw[hu]at hj;simp at hj ⊢;rcases hj with x | x | x <;> simp[x]⟩
   obtain⟨u1,b,hord,hin,hiu1⟩:=hwhere;obtain⟨o2,f,hm⟩:=D3 (hord▸hb);obtain rfl:o=o2:=by rw[ho']at f;exact AcY f
   -- what it looks at is as in the order that is walked
   have hlook:∀t∈o.looksAt l.toArray,a.tmps.getD t undef=ρ t:=fun t ht=>h.agree t fun q hq hnq e=>by
    obtain⟨oq,hoq,hcq,hownq,-⟩:=h.pend q hq hnq;have hdq:oq.dst=some t:=by unfold CO at e;rw[hoq]at e;exact e
    rcases Nat.lt_trichotomy q i with hqi | hqi | hqi
    ·exact hnq (hmr q (g.tied i o q oq t ho' hoq hqi (.inl ⟨hdq,AdS _ ht⟩)))
    ·subst hqi;rw[ho']at hoq;cases hoq;exact hownq t hdq ht
    ·-- it is bound ahead of q, which stands behind it
     have hmq:=g.tied q oq i o t hoq ho' hqi (.inr ⟨hdq,AdS _ ht⟩);have hqo:q∈ord:=by rw[h.split];simp[hq]
     obtain⟨p1,p2,hp⟩:=Ad9 hqo;obtain⟨oq2,hoq2,hmq2⟩:=D3 (hp▸hb);rw[hoq]at hoq2;cases hoq2;have hip:=hmq2.lin i hilt hmq;by_cases hic:i∈cs/\DJ l i=false
     ·-- a chain's operation that has no guard and is still to come stands behind all that is walked
      have hir:i∈r:=(Adf.1 hio).elim (fun x=>by
       obtain⟨oi,hoi,hci,-⟩:=h.pend i x hno;rcases hci with y | y
       ·exact absurd hic.1 y
       ·rw[hic.2]at y;cases y) id
      obtain⟨z,-⟩:=hin hir;have hdis:i∉u:=fun x=>by
       have:=h.split▸hnd;exact Np this x hir
      -- p1 lies within u
      obtain⟨s1,s2,hs⟩:=Ad9 hq;have m:p1=s1:=by
       have hx:p1++q :: p2=s1++q :: (s2++r):=by rw[<-hp,h.split,hs];simp
       exact OS (hp▸hnd) hx
      rw[m]at hip;exact hdis (by rw[hs];simp[hip])
     ·have:=(hmq2.sep i hip (by
       by_cases hx:i∈cs
       ·right;cases hy:DJ l i with
        | true=>rfl
        | false=>exact absurd ⟨hx,hy⟩ hic
       ·exact .inl hx) (hcq.elim .inl fun x=> .inr (.inl x)) t hdq).1
      exact this (by unfold looksL;rw[ho'];exact ht)
   have hwa:AdC o (yielded l.toArray a.tmps)=AY l o ρ:=by
    rw[<-LK a o,EB hlook]
   unfold wpOp;simp only[Adw,ho'];by_cases hir:i∈r
   ·-- the chain's next operation
    obtain⟨rfl,m⟩:=hin hir;rcases hr with rfl | ⟨c,q,oc,rfl,hc,hoc,hwc⟩
    ·cases hir
    obtain⟨rfl,rfl⟩:c=i/\q=b:=by simpa using m
    rw[ho']at hoc;cases hoc;rw[hwa,hwc,if_pos rfl];have hrun:=h.run;unfold DA at hrun;rw[ho']at hrun;simp only at hrun;rw[if_neg (by rw[hwc];simp),if_pos hc]at hrun;refine .inl (MU (J:=fun ch w' =>∀ρ',Q (.panic ch) ρ' w') ?_ fun ch w' h=>⟨_,hF,h _⟩);rw[hF.eval,Da (ρ:=ρ) hm.sel hlook];refine Aaw hrun ?_ fun _ _ h=>h;rintro v w' ⟨I',hI',hII,hrun'⟩;have hne:∀t,o.dst≠some t->updO ρ o.dst v t=ρ t:=fun t ht=>by
     cases hd:o.dst with
     | none=>rfl
     | some d=>rw[AX,CM (fun e=>ht (by rw[hd,e]))]
    have h0:MInv P l cs pf fl ord n (fun ch w' =>∀ρ',Q (.panic ch) ρ' w') (fun ρ w=>Q .normal ρ w) (u1++ [c]) q I' (updO ρ o.dst v) (listed.setIfInBounds c true) (a.put o.dst v) w' :=by
     refine⟨by simpa using h.size,hcl,(hF.put o.dst hroom _).size,(hF.put o.dst hroom _).defers,by rw[hord];simp,fun j hj hx=> ?_,fun j hj hnj=> ?_,fun t ht=> ?_,hI',hrun'⟩
     ·rcases(AR hil).1 hx with rfl | hx
      ·have:=hord▸hnd;exact(AdK.1 (AeA.1 this).2.1).1 hj
      ·exact h.rest j (by simp[hj]) hx
     ·obtain⟨hnj,hjc⟩:=hun j hnj;have hju:j∈u1:=(Adf.1 hj).elim id fun x=>absurd (Ada.1 x) hjc;obtain⟨oj,hoj,hcj,hownj,hselj,hpj⟩:=h.pend j hju hnj;have hup:Pend P l cs pf fl I' ρ w' j:=by
       refine⟨oj,hoj,hcj,hownj,hselj,?_⟩;rcases hpj with x | ⟨x1,x2,d,x3,x4⟩
       ·exact .inl x
       ·refine .inr ⟨x1,x2,d,x3,fun w2 hw2=> ?_⟩;rcases hm.loc hc j hju x2 with hjp | hjf | hjm
        ·exact x4 w2 (.inl hjp)
        ·refine x4 w2 (hw2.elim .inl fun hw2=> .inr ?_);rw[if_pos hjf]at hw2 ⊢;rcases hII with hII | hclr
         ·exact hII _ hw2
         ·exfalso;have:=Ads.1 hclr j hjf;rw[Ad7]at this;rcases this with y | y
          ·have hz:=hord▸hnd;have hy:j∈c :: q:=by simp at y;simp[y]
           exact Np hz hju hy
          ·exact hnj (hmr j y)
        ·exact absurd (hmr j hjm) hnj
      have hmj:((AZ l []).getD c 0).testBit j=false:=by
       cases hx:((AZ l []).getD c 0).testBit j with
       | false=>rfl
       | true=>exact absurd (hmr j hx) hnj
      exact hup.upd (fun t ht=>hne t fun e=>(hm.sep j hju hcj (.inr (.inr hmj)) t e).1 ht) fun t ht=>hne t fun e=>(hm.sep j hju hcj (.inr (.inr hmj)) t e).2 ht
     ·rw[(hF.put o.dst hroom _).get t];have hag:(∀j∈u1,¬On listed j->CO l j≠some t)->a.tmps.getD t undef=ρ t:=fun hx=>h.agree t hx;have hag' :=hag fun j hj hnj=>ht j (by simp[hj]) fun x=>by
       rcases(AR hil).1 x with rfl | x
       ·have hz:=hord▸hnd;exact Np hz hj (by simp)
       ·exact hnj x
      cases hd:o.dst with
      | none=>exact hag'
      | some d=>
       rw[AX,AX];by_cases e:t=d
       ·subst e;rw[DZ,DZ]
       ·rw[CM e,CM e];exact hag'
    obtain⟨u',r',ρ',hp,hr'⟩:=h0.place hb;exact ih _ _ _ u' r' I' ρ' hcnt hp hr'
   ·-- one that was walked
    have hiu:i∈u:=(Adf.1 hio).elim id fun x=>absurd x hir;obtain⟨o3,p,hci,hown,hsel,hp⟩:=h.pend i hiu hno;rw[ho']at p;cases p;have next:∀v,(∀d,o.dst=some d->v=ρ d)->wpAny P .any l.toArray (fun e a' w' =>∃ρ',Fits n ρ' a' /\Q e ρ' w') fuel (listed.setIfInBounds i true) (a.put o.dst v) w:=fun v hv=>by
     refine ih _ _ _ u r I ρ hcnt ⟨by simpa using h.size,hcl,(hF.put o.dst hroom _).size,(hF.put o.dst hroom _).defers,h.split,fun j hj hx=> ?_,fun j hj hnj=>h.pend j hj (hun j hnj).1,fun t ht=> ?_,h.holds,h.run⟩ hr
     ·rcases(AR hil).1 hx with rfl | hx
      ·exact hir hj
      ·exact h.rest j hj hx
     ·rw[(hF.put o.dst hroom _).get t];by_cases e:o.dst=some t
      ·rw[e,AX,DZ];exact hv t e
      ·have hx:updO (fun t=>a.tmps.getD t undef) o.dst v t=a.tmps.getD t undef:=by
        cases hd:o.dst with
        | none=>rfl
        | some d=>rw[AX,CM (fun x=>e (by rw[hd,x]))]
       rw[hx];refine h.agree t fun j hj hnj=> ?_;by_cases hji:j=i
       ·subst hji;unfold CO;rw[ho'];exact e
       ·exact ht j hj fun x=>by
         rcases(AR hil).1 x with x | x
         ·exact hji x
         ·exact hnj x
    rcases hp with ⟨x1,x2⟩ | ⟨x1,x2,d,x3,x4⟩
    ·rw[hwa,x1,if_neg (by simp)];exact next undef fun d hd=>(x2 d hd).symm
    ·rw[hwa,x1,if_pos rfl];refine .inl (Iy ?_);rw[hF.eval,Da (ρ:=ρ) hsel hlook];refine Acd (x4 w (.inr (by split <;> first | exact h.holds | rfl))) ?_;rintro v w' ⟨rfl,rfl⟩;exact next _ fun d' hd' =>by rw[x3]at hd';cases hd';rfl
end
def Never{α:Type}(x:Sem α):Prop:=∀(P:AcN) (w:Acs) (a:α) (w' :Acs),x.run P w ≠ .ok a w'
def Steady{α:Type}(x:Sem α):Prop:=∀(P:AcN) (w:Acs) (a:α) (w' :Acs),x.run P w = .ok a w' ->w' =w/\∀w2,x.run P w2 = .ok a w2
theorem Never.steady{α:Type}{x:Sem α}(h:Never x):Steady x:=fun P w a w' e=>absurd e (h P w a w')
theorem Steady.pure{α:Type}(a:α):Steady (Pure.pure a:Sem α):=fun P w b w' h=>by
 simp only[AcE,Result.ok.injEq]at h ⊢;exact⟨h.2.symm,fun _=>⟨h.1,trivial⟩⟩
abbrev Ach:=@Steady.pure
theorem Steady.bind{α β:Type}{x:Sem α}{f:α->Sem β}(hx:Steady x)(hf:∀a,Steady (f a)):Steady (x >>= f):=fun P w b w' h=>by
 rw[AcC]at h;cases hr:x.run P w with
 | ok a w1=>
  rw[hr,AcB]at h;obtain⟨rfl,h1⟩:=hx P w a w1 hr;obtain⟨rfl,h2⟩:=hf a P w1 b w' h;exact⟨rfl,fun w2=>by rw[AcC,h1 w2,AcB];exact h2 w2⟩
 | halt e w1=>rw[hr]at h;cases h
abbrev Ab1:=@Steady.bind
theorem Never.bind{α β:Type}{x:Sem α}{f:α->Sem β}(hf:∀a,Never (f a)):Never (x >>= f):=fun P w b w' h=>by
 rw[AcC]at h;cases hr:x.run P w with
 | ok a w1=>rw[hr,AcB]at h;exact hf a P w1 b w' h
 | halt e w1=>rw[hr]at h;cases h
abbrev Aci:=@Never.bind
theorem Never.halt{α:Type}(e:Halt):Never (Sem.halt e:Sem α):=fun P w a w' h=>by cases h
abbrev AbV:=@Never.halt
theorem CX{α:Type}(e:RuntimeError):Never (runtimePanic e:Sem α):=Aci fun p=>by
 cases e <;> first | exact AbV _ | exact Aci fun _=>Aci fun _=>AbV _
theorem Steady.program:Steady program:=fun P w a w' h=>by
 have h:AgK P w=AgK a w' :=h;cases h;exact⟨rfl,fun _=>rfl⟩
theorem Steady.underlying(t:Acz):Steady (underlying t):=Ab1 .program fun p=>by
 cases p.underlying t with
 | none=>exact(AbV _).steady
 | some d=>exact .pure d
abbrev Ab0:=@Steady.underlying
theorem Steady.sizeOf(t:Acz):Steady (sizeOf t):=Ab1 (Ab1 .program fun p=>by
 cases p.info? t with
 | none=>exact(AbV _).steady
 | some d=>exact .pure d) fun _=> .pure _
abbrev Aca:=@Steady.sizeOf
theorem Steady.asIntOf(v:Acr):Steady (asIntOf v):=by
 unfold Go.asIntOf;split
 ·exact .pure _
 ·exact(AbV _).steady
 ·exact(AbV _).steady
abbrev Ab7:=@Steady.asIntOf
theorem Steady.sureAddr(v:Acr):Steady (AeZ v):=by
 unfold AeZ;split
 ·exact .pure _
 ·exact(AbV _).steady
abbrev Ab5:=@Steady.sureAddr
theorem Steady.asAddr(v:Acr):Steady (asAddr v):=by
 unfold Go.asAddr;split
 all_goals first | exact .pure _ | exact(AbV _).steady | exact(CX _).steady
abbrev Acb:=@Steady.asAddr
theorem D4{α:Type}(k:AdI)(x y:Int)(c:BoundsCode):Never (boundsPanic k x y c:Sem α):=by
 unfold boundsPanic
 dsimp only
 split
 ·exact Aci fun s=>CX _
 ·exact Aci fun s=>CX _
theorem Steady.indexAt(t:Acz)(x i:Acr):Steady (Instr.indexAt t x i):=by
 unfold Instr.indexAt
 repeat' first
  | exact Ach _
  | exact(AbV _).steady
  | exact Ab0 _
  | exact Aca _
  | exact Ab7 _
  | exact Ab5 _
  | exact Acb _
  | exact(D4 _ _ _ _).steady
  | exact(CX _).steady
  | refine Ab1 ?_ fun _=> ?_
  | split
  | dsimp only
theorem Steady.sliceBound(v:Acr)(n:Nat)(c:BoundsCode):Steady (Instr.sliceBound v n c):=by
 unfold Instr.sliceBound
 repeat' first
  | exact Ach _
  | exact(AbV _).steady
  | exact Ab0 _
  | exact Aca _
  | exact Ab7 _
  | exact Ab5 _
  | exact Acb _
  | exact(D4 _ _ _ _).steady
  | exact(CX _).steady
  | refine Ab1 ?_ fun _=> ?_
  | split
  | dsimp only
theorem Steady.sliceBounds(b:Bool)(n c:Nat)(l h m:Option Acr):Steady (Instr.sliceBounds b n c l h m):=by
 unfold Instr.sliceBounds
 repeat' first
  | exact Ach _
  | exact(AbV _).steady
  | exact Ab0 _
  | exact Aca _
  | exact Ab7 _
  | exact Ab5 _
  | exact Acb _
  | exact(D4 _ _ _ _).steady
  | exact(CX _).steady
  | exact Steady.sliceBound _ _ _
  | refine Ab1 ?_ fun _=> ?_
  | split
  | dsimp only
abbrev Acm:=@Steady.sliceBounds
theorem Steady.slice(t:Acz)(x:Acr)(l h m:Option Acr):Steady (Instr.slice t x l h m):=by
 unfold Instr.slice
 repeat' first
  | exact Ach _
  | exact(AbV _).steady
  | exact Ab0 _
  | exact Aca _
  | exact Ab7 _
  | exact Ab5 _
  | exact Acb _
  | exact(D4 _ _ _ _).steady
  | exact(CX _).steady
  | exact Acm _ _ _ _ _ _
  | refine Ab1 ?_ fun _=> ?_
  | split
  | dsimp only
theorem Steady.sliceAt(t:Acz)(x:Acr)(l h m:Option Acr):Steady (AeP t x l h m):=by
 unfold AeP
 repeat' first
  | exact Ach _
  | exact(AbV _).steady
  | exact Ab0 _
  | exact Aca _
  | exact Ab7 _
  | exact Ab5 _
  | exact Acb _
  | exact(D4 _ _ _ _).steady
  | exact(CX _).steady
  | exact Acm _ _ _ _ _ _
  | exact Steady.slice _ _ _ _ _
  | refine Ab1 ?_ fun _=> ?_
  | split
  | dsimp only
theorem LN{P:AcN}{K:Acr->Acs->Prop}{s:Sem Acr}{w:Acs}(hs:Steady s)(h:Yk P K ((do pure (Next.value (<-s)):Sem Next).run P w)):
  ∃v,K v w/\∀w',Yk P (fun x w'' =>x=v/\w'' =w') ((do pure (Next.value (<-s)):Sem Next).run P w'):=by
 rw[AcC]at h;cases hr:s.run P w with
 | ok a w1=>
  rw[hr,AcB,AcE]at h;obtain⟨rfl,h1⟩:=hs P w a w1 hr;exact⟨a,h,fun w' =>by rw[AcC,h1 w',AcB,AcE];exact⟨rfl,rfl⟩⟩
 | halt e w1=>rw[hr]at h;exact h.elim
end Go.Proofs.YtbbbblinjomajaaGreatDoor
