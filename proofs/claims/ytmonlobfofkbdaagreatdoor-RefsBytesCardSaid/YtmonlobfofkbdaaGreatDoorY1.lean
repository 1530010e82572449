/- Part 1 of what stands behind these statements: laws and walks of the functions that are reached. Conditions: those that each theorem names. -/
import Derived.WalkKit
import Derived.WalkLawsBesides
import Derived.WalkSpells
import Derived.Deep.AppendSrc
import Derived.Lib.Hide
import Derived.Lib.VarintMem
import Derived.ProofKit
import Derived.OpenShut
import Derived.ShutString
import Derived.JoinedCond
import Derived.Deep.DeepHandedRow
import Derived.Lay
import Derived.Stop.LaidErr
import Derived.Orders
import Derived.Below
import Derived.Laws.IdiomStrings
import Derived.Deep.MidRow
import Derived.Scope
import Derived.Laws.Rows
import Derived.Laws.StructEq
import Derived.Lib.EndianBits
import Derived.Lib.Walk
import Derived.Deep.Slices
import Derived.Laws.RangeAny
import Derived.Lib.Varint
import Derived.DeepKeys4
import Derived.MapKept
import Derived.WideKeyEntry
import Derived.Recover
import Derived.Lib.Bytealg
import Derived.Laws.Externs
import Derived.Lib.ConvBytes
import Derived.Lib.AtoiErrMem
import Derived.Lib.AppendZerosOnto
import Derived.Lib.Overlaps
import Derived.Sort.Walk0
import Derived.Shelf.Small.Strs
import Derived.Defers
import Derived.Test.YtmonlobfofkbdaaGreatDoorRows
import Derived.Test.YtmonlobfofkbdaaGreatDoorProg
set_option linter.unusedVariables false
set_option linter.unusedSimpArgs false
namespace Go.Proofs.YtmonlobfofkbdaaGreatDoor
open Go.RowKit
/-! Short names for what stands in the walks again and again. -/
abbrev PQ(b o:Nat):Value:= .pointer (some ⟨b,o,none⟩)
abbrev St(l:List UInt8):Value:= .string ⟨l.toArray⟩
abbrev AB(l:List UInt8):Value:= .agg (Lib.byteCells l).toArray
abbrev OB(v:Value)(g:Nat):Prop:=v.ownBlock≠some g
theorem Ae{x v:Value}(h:x=v):x=v:=h
theorem Bc{a b n:Nat}(h:a<b)(e:b=n):a<n:=e▸h
theorem vr{x:Value}(y:Value)(h:x=y):x=y:=h
theorem bl{α:Type}{xs:Array α}{i:Nat}{o:α}(h:xs[i]? =some o):i<xs.size:=(Array.getElem?_eq_some_iff.1 h).1
theorem kb{w w' :World}{g n:Nat}{o:Obj}(hg:w.grownBy w' (some g))(hb:w.heap[n]? =some o)(h:n≠g):w'.heap[n]? =some o:=(hg.block n (bl hb) (fun e=>h (Option.some.inj e))).trans hb

structure Grew (w w' : World) (v v' : Value) : Prop where
  by_:w.grownBy w' v.ownBlock
  fresh:∀k,v'.ownBlock=some k→v.ownBlock=some k∨w.heap.size≤k

theorem Ab{w w1 a:World}{r r1:Option Nat}(h:w.grownBy w1 r)(k:w1.grownBy a r1)(hr:∀b,r1=some b→r=some b∨w.heap.size≤b):w.grownBy a r:=by
  refine⟨k.os.trans h.os,k.tape.trans h.tape,k.output.trans h.output,Nat.le_trans h.size k.size,fun i hi hne=> ?_⟩
  have h1:=h.size
  rw[k.block i (by omega) (fun e=>(hr i e.symm).elim (fun h2=>hne h2.symm) (fun h2=>by omega)),h.block i hi hne]

theorem Grew.eqv{w w' :World}{x v v' :Value}(e:x=v)(h:Grew w w' x v'):Grew w w' v v' :=e▸h
theorem Grew.refl(w:World)(v:Value):Grew w w v v:=⟨World.grownBy.refl _ _,fun _ h=> .inl h⟩
theorem Grew.trans{w w1 a:World}{v c e:Value}(h:Grew w w1 v c)(k:Grew w1 a c e):Grew w a v e:=
  ⟨Ab h.by_ k.by_ h.fresh,fun b hb=>by
    have h1:=h.by_.size
    rcases k.fresh b hb with h2 | h2
    · exact h.fresh b h2
    · exact .inr (by omega)⟩
theorem Grew.alloc{w w1:World}{v a:Value}(h:Grew w w1 v a)(o:Obj):Grew w (w1.alloc o) v a:=
  ⟨Ab h.by_ (World.grownBy_alloc _ o none) (fun _ e=>by cases e),h.fresh⟩
section
variable {P : Program} (w : World)
theorem FQ(base:Nat)(t tx ty e:TypeId)(i:TypeInfo)(z:Value)(size bytes:Nat)(ht:P.underlying t=some (.slice e))(hi:P.info? e=some i)(hz:i.zero=some z) 
    (hsize:i.size=size) (hby:i.bytes=bytes) (hzs:z.cells.size=size)
    (v:Value) (n:Nat) (xs:List Value) (hown:w.ownsRow base e size v n xs)
    (x:Value) (m:Nat) (news:List Value) (hs:Src P size tx x m news w)
    (h63:n+m≤maxLen) (hbytes:(n+m)*bytes≤140737488355328) (hbase:base≤w.heap.size):
    ∃v' w',(Builtin.append_ #[t,tx] ty #[v,x]).run P w = .ok v' w' ∧w'.ownsRow base e size v' (n+m) (xs++news)∧Grew w w' v v' :=by
  subst hsize
  subst hby
  have hsmall:n+m≤9223372036854775807:=by simp only[maxLen]at h63;omega
  have hl:=hs.newsLen
  have hlen:(xs++news).length=(n+m)*i.size:=by rw[List.length_append,hown.1,hl,Nat.add_mul]
  have grown:∀(old:Nat),old<n+m →
      (w.drew.alloc (.cells ((xs++news).toArray++Builtin.zeroCells z.cells (grownCap w (n+m) old e-(n+m))) e)).ownsRow base e i.size
        (.slice (some ⟨w.heap.size,0,none⟩) (n+m) (grownCap w (n+m) old e)) (n+m) (xs++news) ∧
      Grew w (w.drew.alloc (.cells ((xs++news).toArray++Builtin.zeroCells z.cells (grownCap w (n+m) old e-(n+m))) e)) v (.slice (some ⟨w.heap.size,0,none⟩) (n+m) (grownCap w (n+m) old e)):=by
    intro old ho
    have hge:=grownCap_ge w (n+m) old e
    have hcm:grownCap w (n+m) old e≤maxLen:=grownCap_le_maxLen w (n+m) old e h63
    refine⟨⟨hlen, .inr ⟨w.heap.size,_,_,rfl,hbase,heap_alloc_new w.drew _,hge,hcm,?_,?_⟩⟩,⟨⟨rfl,rfl,rfl,by simp,fun _ hk _=>heap_alloc_old w.drew _ hk⟩,?_⟩⟩
    · simp only[Array.size_append,List.size_toArray,size_zeroCells,hzs,hlen,←Nat.add_mul]
      congr 1
      omega
    · simp only[Array.toList_append]
      rw[←hlen]
      exact List.take_left
    · intro k hk
      simp[Value.ownBlock]at hk
      exact .inr (by omega)
  rcases hown.2 with ⟨rfl,rfl⟩ | ⟨g,cap,cur,rfl,hbg,hg,hnc,hcm,hcs,htake⟩
  · have hx:xs= []:=List.eq_nil_of_length_eq_zero (by simpa using hown.1)
    subst hx
    by_cases hm:m=0
    · subst hm
      have hn:news= []:=List.eq_nil_of_length_eq_zero (by simpa using hl)
      subst hn
      refine⟨.slice none 0 0,w,?_,World.ownsRow_nil w base e i.size,Grew.refl _ _⟩
      have hc:=hs.cells
      have hle:=hs.len
      rcases hs.kind with ⟨e',hk⟩ | hk <;> simp[Builtin.append_,run_underlying ht,run_underlying hk,sizeOf,typeInfo,hi,hle,hc]
    · have hgr:=grown 0 (by omega)
      have hr:=run_append_grow_src (P:=P) w t tx ty e i z ht hi hz none 0 0 [] (run_firstCells_none w.drew i.size 0 0 0) x m news hs (by omega) (by omega)
        (growslice_fits (by omega) hbytes)
      exact⟨_,_,hr,hgr.1,hgr.2⟩
  · by_cases hroom:n+m≤cap
    · have hfit:n*i.size+news.length≤cur.size:=by rw[hl,hcs,←Nat.add_mul];exact Nat.mul_le_mul_right _ hroom
      have hst:=run_storeCells_at P g (n*i.size) e news 0 cur w hg (by simpa using hfit) hs.one
      simp only[Nat.add_zero]at hst
      have hr:(Builtin.append_ #[t,tx] ty #[.slice (some ⟨g,0,none⟩) n cap,x]).run P w = .ok (.slice (some ⟨g,0,none⟩) (n+m) cap) (w.setRow g (cur.toList.take (n*i.size)++news++cur.toList.drop (n*i.size+news.length)).toArray):=by
        rcases hs.kind with ⟨e',hk⟩ | hk <;> simp[Builtin.append_,run_underlying ht,run_underlying hk,sizeOf,typeInfo,hi,hs.len,hroom,hs.cells,Addr.add_lit,hst]
      refine⟨_,_,hr,⟨hlen, .inr ⟨g,cap,_,rfl,hbg,setRow_heap w g cur _ e _ hg,hroom,hcm,?_,?_⟩⟩,⟨⟨rfl,rfl,rfl,by simp,fun k _ hk=>setRow_other w g k _ (fun e=>hk (by simp[Value.ownBlock,e]))⟩,fun k hk=> .inl hk⟩⟩
      · simp only[List.size_toArray,List.length_append,List.length_take,List.length_drop,Array.length_toList]
        omega
      · rw[htake,←hlen]
        exact List.take_left
    · have holds:∀j u,xs[j]? =some u→w.cell? ((⟨g,0,none⟩:Addr).add j)=some u:=hown.cells (g:=g) rfl
      have hgr:=grown cap (by omega)
      have hr:=run_append_grow_src (P:=P) w t tx ty e i z ht hi hz (some ⟨g,0,none⟩) n cap xs (run_firstCells_some w.drew i.size n ⟨g,0,none⟩ n cap xs hown.1 (by simpa using holds)) x m news hs (by omega) (by omega)
        (growslice_fits (by omega) hbytes)
      exact⟨_,_,hr,hgr.1,hgr.2⟩

theorem BX{ops:Array Oper}{rest:List Oper}{o:Oper}{a:Act}{Q:Exit→Act→World→Prop}(hgd:o.guard=none)(s xo:Operand)(t tx:TypeId) 
    (ho:o.op = .call { callee:= .builtin .append,args:= #[s,xo],argTypes:= #[t,tx] })
    (base:Nat) (e:TypeId) (i:TypeInfo) (z:Value) (size bytes:Nat) (ht:P.underlying t=some (.slice e)) (hi:P.info? e=some i) (hz:i.zero=some z)
    (hsize:i.size=size) (hby:i.bytes=bytes) (hzs:z.cells.size=size)
    (v:Value) (n:Nat) (xs:List Value) (hs:a.eval s=v) (hown:w.ownsRow base e size v n xs)
    (x:Value) (m:Nat) (news:List Value) (hx:a.eval xo=x) (hsrc:Src P size tx x m news w)
    (h63:n+m≤maxLen) (hbytes:(n+m)*bytes≤140737488355328) (hbase:base≤w.heap.size)
    (h:∀v' w',w'.ownsRow base e size v' (n+m) (xs++news)→Grew w w' v v' →wpList P ops Q rest (a.put o.dst v') w'):wpList P ops Q (o :: rest) a w:=
  wpList_plain hgd fun K hK=>by
    obtain⟨v',w',hr,h2,h3⟩:=FQ (P:=P) w base t tx o.type e i z size bytes ht hi hz hsize hby hzs v n xs hown x m news hsrc h63 hbytes hbase
    unfold Oper.wp execOp
    simp only[ho,resolve,invoke,builtin,Sem.run_bind,Sem.run_pure,Result.andThen_ok,List.map_toArray,List.map_cons,List.map_nil,hs,hx,hr]
    exact hK _ _ (h v' w' h2 h3)
end
theorem Bg{w:World}{b b' :Nat}{e:TypeId}{size:Nat}{v:Value}{n:Nat}{xs:List Value}(h:w.ownsRow b e size v n xs)(hb:b' ≤b):w.ownsRow b' e size v n xs:=
  ⟨h.1,h.2.imp (fun x=>x) (fun⟨g,cap,cur,a,c,r⟩=>⟨g,cap,cur,a,Nat.le_trans hb c,r⟩)⟩

def Reads(w:World)(size:Nat)(v:Value)(n:Nat)(xs:List Value):Prop:=
  xs.length=n*size∧∃ao cap,v = .slice ao n cap∧n≤cap∧cap≤maxLen∧(ao=none→n=0∧cap=0)∧∀a,ao=some a→∀j u,xs[j]? =some u→w.cell? (a.add j)=some u

def RB(w:World)(v:Value)(l:List UInt8):Prop:=Reads w 1 v l.length (Lib.byteCells l)

theorem Ay(l:List UInt8):∀u∈Lib.byteCells l,u.oneCell' =true:=by
  intro u hu
  obtain⟨_,_,rfl⟩:=List.mem_map.1 hu
  rfl

theorem RB.src{P:Program}{tx e' :TypeId}(hk:P.underlying tx=some (.slice e')){w:World}{v:Value}{l:List UInt8}(h:RB w v l):Src P 1 tx v l.length (Lib.byteCells l) w:=by
  obtain⟨h1,ao,cap,rfl,h2,h3,h4,h5⟩:=h
  cases ao with
  | none=>
    obtain⟨h6,rfl⟩:=h4 rfl
    have:l= []:=List.eq_nil_of_length_eq_zero h6
    subst this
    exact Src.ofNil w hk 0
  | some a=>exact Src.ofSlice w hk a _ cap _ h1 (h5 a rfl) (Ay l)
theorem RB.below{B:Nat}{w w' :World}{v:Value}{l:List UInt8}(h:RB w v l)(hb:Below B w w')(hB:B=w.heap.size):RB w' v l:=by
  obtain⟨h1,ao,cap,rfl,h2,h3,h4,h5⟩:=h
  refine⟨h1,ao,cap,rfl,h2,h3,h4,fun a ha j u hu=> ?_⟩
  have:=h5 a ha j u hu
  exact(hb.cell (by have:=World.block_lt_of_cell? w _ this;omega)).trans this
theorem Pg(s:ByteArray):byteCells s=Lib.byteCells s.data.toList:=rfl
theorem Jo{P:Program}{tx:TypeId}(hk:P.underlying tx=some .string)(w:World)(s:ByteArray):Src P 1 tx (.string s) s.data.toList.length (Lib.byteCells s.data.toList) w:=by
  have h:=Src.ofString (P:=P) w hk s
  rw[Pg]at h
  exact h
theorem RB.ofOwn{w:World}{base:Nat}{e:TypeId}{v:Value}{l:List UInt8}(h:w.ownsRow base e 1 v l.length (Lib.byteCells l)):RB w v l:=by
  refine⟨h.1,?_⟩
  have h' :=h
  rcases h.2 with ⟨rfl,h0⟩ | ⟨g,cap,cur,rfl,hbg,hg,hnc,hcm,hcs,htake⟩
  · exact⟨none,0,by rw[h0],by omega,by simp[maxLen],fun _=>⟨h0,rfl⟩,fun a ha=>by cases ha⟩
  · exact⟨some ⟨g,0,none⟩,cap,rfl,hnc,hcm,(fun h=>by cases h),(fun a ha j u hu=>by cases ha;exact h'.cells rfl j u hu)⟩

theorem Ig{P:Program}{tx e' :TypeId}(hk:P.underlying tx=some (.slice e'))(w:World)(c:Value)(t:TypeId)(hc:c.oneCell' =true):Src P 1 tx (.slice (some ⟨w.heap.size,0,none⟩) 1 1) 1 [c] (w.alloc (.cells #[c] t)):=
  Src.ofSlice _ hk ⟨w.heap.size,0,none⟩ 1 1 [c] rfl (fun j u hj=>by
    match j,hj with
    | 0,hj=>simp at hj;subst hj;simp[Addr.add]) (fun u hu=>by simp at hu;subst hu;exact hc)

structure NewB (e : TypeId) (w w' : World) (v : Value) (l : List UInt8) : Prop where
  own:w'.ownsRow w.heap.size e 1 v l.length (Lib.byteCells l)
  by_:w.grownBy w' none
theorem NewB.below{e:TypeId}{w w' :World}{v:Value}{l:List UInt8}(h:NewB e w w' v l):Below w.heap.size w w' :=
  (Below.refl _ _).grown h.by_ (Nat.le_refl _) (fun k hk=>by cases hk)
theorem NewB.more{e:TypeId}{w w1 a:World}{v v' :Value}{l l' :List UInt8}(h:NewB e w w1 v l)(g:Grew w1 a v v')(ho:a.ownsRow w.heap.size e 1 v' (l.length+l'.length) (Lib.byteCells l++Lib.byteCells l')):NewB e w a v' (l++l'):=
  ⟨by rw[Lib.byteCells_append,List.length_append];exact ho,Ab h.by_ g.by_ (fun b hb=> .inr (h.own.lt b hb).1)⟩
theorem RB.keep{w w' :World}{v:Value}{l:List UInt8}(h:RB w v l)(hb:Below w.heap.size w w'):RB w' v l:=h.below hb rfl
theorem RB.len{w:World}{v:Value}{l:List UInt8}(h:RB w v l):∃ao cap,v = .slice ao l.length cap∧l.length≤cap∧cap≤9223372036854775807:=by
  obtain⟨h1,ao,cap,rfl,h2,h3,h4,h5⟩:=h
  unfold maxLen at h3
  exact⟨ao,cap,rfl,h2,h3⟩
open Go.ChangeShapes Go.WideShapes Go.ChangeAt Go.RowKit
open Go.ChangeMaps (open_string shut_string)
theorem KM{H:Type}(d:DataW H):1≤Rows.uptoBulk d:=by
  cases d with
  | lit l=>cases l <;> simp[Rows.uptoBulk]
  | nil=>simp[Rows.uptoBulk]
  | ptr d=>simp[Rows.uptoBulk]
  | slice elems spare=>simp[Rows.uptoBulk]
  | agg parts=>simp[Rows.uptoBulk]
  | iface t d=>simp[Rows.uptoBulk]
  | map entries=>simp[Rows.uptoBulk]
  | held h=>simp[Rows.uptoBulk]
theorem HA{H:Type}(l:List (DataW H)):l.length≤Rows.uptoBulkAll l:=by
  induction l with
  | nil=>simp[Rows.uptoBulkAll]
  | cons x r ih=>have:=KM x;simp only[Rows.uptoBulkAll,List.length_cons];omega
theorem Mx{H:Type}(elems spare:List (DataW H)):elems.length+spare.length+1≤Rows.uptoBulk (.slice elems spare):=by
  have h1:=HA elems
  have h2:=HA spare
  simp only[Rows.uptoBulk]
  omega
theorem My{w:World}{a:Addr}{len cap:Nat}{zs:List Int}(hl:len≤cap)(hm:cap≤maxLen)(hz:len≤zs.length)(hc:∀i,i<zs.length→w.cell? (a.add i)=some (.int .u8 (zs.getD i 0)))(hw:∀n∈zs,(Lit.int .u8 n).wf=true):
    RB w (.slice (some a) len cap) ((zs.take len).map fun n=>UInt8.ofNat n.toNat):=by
  have hlen:((zs.take len).map fun n=>UInt8.ofNat n.toNat).length=len:=by simp;omega
  refine⟨by rw[Lib.byteCells_length,hlen,Nat.mul_one],some a,cap,by rw[hlen],by omega,hm,(fun h=>by cases h),fun a' ha j u hu=> ?_⟩
  cases ha
  have hj:j<len:=by
    have:=(List.getElem?_eq_some_iff.1 hu).1
    rw[Lib.byteCells_length,hlen]at this
    exact this
  have hjz:j<zs.length:=by omega
  have hwf:=hw zs[j] (List.getElem_mem hjz)
  have hb:0≤zs[j]∧zs[j]≤255:=by simpa [Lit.wf,IntKind.min,IntKind.max,IntKind.signed,IntKind.bits] using hwf
  rw[hc j hjz]
  simp[Lib.byteCells,hj,hjz]at hu
  rw[←hu]
  congr 1
  simp[List.getD,hjz]
  omega

section
variable {H : Type} {enc : TypeId × Value → H} {P : Program} {W : World}
theorem Mz{t e:TypeId}{r:Reach}{b0:Nat}{v:Value}{d:DataW H}{ps:List MemPlace}(ht:P.underlying t=some (.slice e))(he:P.underlying e=some (.int .u8))(hc:P.cellsOf e=1) 
    (hval:Value.okWide P W r b0 t v) (hd:DataW.Trod enc P W 0 (fun _=>true) true t v d ps):∃l,RB W v l∧l.length+1≤Rows.uptoBulk d∧∀x∈ps,x.block<W.heap.size:=by
  obtain⟨a0,len0,cap0,rfl⟩:=okWide_slice ht hval
  obtain⟨fuel,hf⟩:=hd
  have hlt:=DataW.trod_lt fuel _ _ _ hf
  rcases open_ints ht he hc hf with ⟨hcs,hx⟩ | ⟨x,l,c,zs,hcs,_,hl,hm,hz,hx,hcell,hwz⟩
  · simp[Value.cells]at hcs
    obtain⟨rfl,rfl,rfl⟩:=hcs
    exact⟨[],⟨rfl,none,0,rfl,Nat.le_refl _,by simp[maxLen],fun _=>⟨rfl,rfl⟩,fun a h=>by cases h⟩,by have:=KM d;simpa using this,hlt⟩
  · simp[Value.cells]at hcs
    obtain⟨rfl,rfl,rfl⟩:=hcs
    simp at hz
    refine⟨_,My hl hm (by omega) hcell hwz,?_,hlt⟩
    have hd' :d=_:=congrArg Prod.fst hx
    rw[hd']
    have:=Mx (H:=H) (lits .u8 (zs.take len0)) (lits .u8 (zs.drop len0))
    simp[lits]at this ⊢
    omega
theorem Ph{t e:TypeId}{n fuel:Nat}{cs:List Value}{x:DataW H × List MemPlace}(ht:P.underlying t=some (.array n e))(he:P.underlying e=some (.int .u8))(hc:P.cellsOf e=1)(hn:P.cellsOf t=n) 
    (hf:DataW.trod enc P W 0 (fun _=>true) true fuel t cs=some x):∃l:List UInt8,l.length=n∧cs=Lib.byteCells l:=by
  obtain⟨xs,m,rfl,rfl,hlen,hxs,hel⟩:=DataW.trod_array ht hf
  rw[hc]at hel
  have hcell:∀i,(hi:i<n)→∃b:UInt8,cs[i]? =some (.int .u8 (b.toNat:Int)):=fun i hi=>by
    have h1:=hel i hi
    have hx:xs[i]? =some (xs[i]'(by omega)):=List.getElem?_eq_getElem (by omega)
    rw[hx]at h1
    obtain⟨a,c,_,wa⟩:=DataW.trod_int he h1
    have hb:0≤a∧a≤255:=by simpa [Lit.wf,IntKind.min,IntKind.max,IntKind.signed,IntKind.bits] using wa
    refine⟨UInt8.ofNat a.toNat,?_⟩
    have h2:((cs.drop (i*1)).take 1)[0]? =some (.int .u8 a):=by rw[c];rfl
    simp at h2
    rw[h2]
    congr 2
    simp
    omega
  refine⟨(List.range n).map fun i=>if h:i<n then Classical.choose (hcell i h)else 0,by simp,?_⟩
  apply List.ext_getElem?
  intro i
  by_cases hi:i<n
  · have:=Classical.choose_spec (hcell i hi)
    rw[this]
    simp[Lib.byteCells,hi]
  · rw[List.getElem?_eq_none (by omega),List.getElem?_eq_none (by simp[Lib.byteCells];omega)]
end
theorem own:ownKnob Tryz.prog.godebug=none:=by kernel_rfl
theorem Mg:laidOutB Tryz.prog=true:=by kernel_rfl
open Go.RowKit
set_option maxRecDepth 100000
open Go.ChangeShapes Go.WideShapes Go.ChangeAt
def RP:List Value:=List.replicate 32 (.int .u8 0)
def RL{H:Type}:DataW H:= .agg (List.replicate 32 (.lit (.int .u8 0)))
def refZ:Value:= .agg (([.slice none 0 0, .slice none 0 0, .string ⟨#[]⟩]:List Value)++RP++([.slice none 0 0]:List Value)).toArray
def Rr{H:Type}:DataW H:= .agg [.nil, .nil, .lit (.string []),RL, .nil]
noncomputable def GH(os:Os):World:=World.laidAll Tryz.prog os Rows.refsBytesRow.laid
theorem Pi(os:Os)(args:Array Value):laidMet Tryz.prog Rows.refsBytesRow.laid ((GH os).forCall (fun _ _=>0) ⟨#[],args,[]⟩).memory:=
 laidMet_laidAll _ (by kernel_rfl) (by kernel_rfl)
open Go.RowKit
abbrev Bv:=Value→World→Prop
def Is(v:Value):Bv:=fun x _=>x=v
def Ag(ρ:Tmp→Value):Operand→Value
  | .tmp t=>ρ t
  | .const v=>v
  | .global g=> .pointer (some ⟨g,0,none⟩)
  | .func f=> .func (.func f) #[] #[]
theorem evalR_eq(a:Act):Ag (fun t=>a.tmps.getD t undef)=a.eval:=by
  funext x
  cases x <;> rfl
def Yk(P:Program)(K:Value→World→Prop):Result Next→Prop
  | .ok (.value v) w=>K v w
  | .ok .skip w=>K undef w
  | .ok (.enter f args) w=>Calls P f args w fun e w' =>∃v,e = .returned v∧K v w'
  | _=>False
def CN(l:List Oper)(t:Tmp):Nat→Option Nat
  | 0=>none
  | n+1=>if(l[n]?.bind (·.dst))=some t then some n else CN l t n
def E6(l:List Oper)(Φ:Nat→Bv)(T:Array Value)(n:Nat)(t:Tmp)(x:Value)(w:World):Prop:=
  match CN l t n with
  | none=>x=T.getD t undef
  | some k=>Φ k x w
def Cl(l:List Oper)(o:Oper)(ρ:Tmp→Value):Bool:=
  match o.guard with
  | none=>true
  | some (g,want)=>match (l[g]?).bind (·.dst)with
    | some t=>(match ρ t with | .bool b=>b==want | _=>false)
    | none=>false
def E7(P:Program)(l:List Oper)(C:Nat→World→Prop)(R:Nat→World→World→Prop)(Φ:Nat→Bv)(T:Array Value)(n:Nat)(o:Oper):Prop:=
  ∀(ρ:Tmp→Value) (w:World),C n w→(∀t∈o.looksAt l.toArray,E6 l Φ T n t (ρ t) w) →
    if Cl l o ρ=true then Yk P (fun v w' =>R n w w' ∧Φ n v w') ((execOp (Ag ρ) o).run P w)else Φ n undef w
def StepsOk(P:Program)(l:List Oper)(C:Nat→World→Prop)(R:Nat→World→World→Prop)(Φ:Nat→Bv)(T:Array Value):Nat→List Oper→Prop
  | _,[]=>True
  | n,o :: r=>E7 P l C R Φ T n o∧StepsOk P l C R Φ T (n+1) r
theorem StepsOk.get{P:Program}{l:List Oper}{C:Nat→World→Prop}{R:Nat→World→World→Prop}{Φ:Nat→Bv}{T:Array Value}:
    ∀(r:List Oper) (n:Nat),StepsOk P l C R Φ T n r→∀k o,r[k]? =some o→E7 P l C R Φ T (n+k) o
  | [],_,_,k,o,h=>by simp at h
  | x :: r,n,h,0,o,hk=>by simp at hk;subst hk;exact h.1
  | x :: r,n,h,k+1,o,hk=>by
    have:=StepsOk.get r (n+1) h.2 k o (by simpa using hk)
    rwa [show n+(k+1)=n+1+k by omega]

/-! ### The edges' closure, as bits -/
def FR(acc:List Nat)(o:Oper):Nat:=
  o.after.toList.foldl (fun s e=>if Region.binds .any e then s|||2^e.on|||acc.getD e.on 0 else s) 0
def A9:List Oper→List Nat→List Nat
  | [],acc=>acc
  | o :: r,acc=>A9 r (acc++ [FR acc o])
theorem KN(acc:List Nat)(k:Nat):∀(es:List Edge) (s:Nat),(es.foldl (fun s e=>if Region.binds .any e then s|||2^e.on|||acc.getD e.on 0 else s) s).testBit k=true →
    s.testBit k=true∨∃e∈es,Region.binds .any e=true∧(e.on=k∨(acc.getD e.on 0).testBit k=true)
  | [],s,h=> .inl h
  | e :: es,s,h=>by
    rw[List.foldl_cons]at h
    rcases KN acc k es _ h with h1 | ⟨e',he',hb,hx⟩
    · by_cases hb:Region.binds .any e=true
      · rw[if_pos hb]at h1
        simp only[Nat.testBit_or,Bool.or_eq_true]at h1
        rcases h1 with (h1 | h1) | h1
        · exact .inl h1
        · rw[Nat.testBit_two_pow]at h1
          exact .inr ⟨e,by simp,hb, .inl (by simpa using h1)⟩
        · exact .inr ⟨e,by simp,hb, .inr h1⟩
      · rw[if_neg hb]at h1
        exact .inl h1
    · exact .inr ⟨e',by simp[he'],hb,hx⟩
theorem LL{acc:List Nat}{o:Oper}{k:Nat}(h:(FR acc o).testBit k=true):
    ∃e∈o.after,Region.binds .any e=true∧(e.on=k∨(acc.getD e.on 0).testBit k=true):=by
  rcases KN acc k _ _ h with h1 | ⟨e,he,hb,hx⟩
  · simp at h1
  · exact⟨e,by simpa using he,hb,hx⟩
theorem H6(l:List Oper):∀(r:List Oper) (acc:List Nat),acc.length+r.length=l.length→(∀j,r[j]? =l[acc.length+j]?) →
    (∀i o k,i<acc.length→l[i]? =some o→(acc.getD i 0).testBit k=true→∃e∈o.after,Region.binds .any e=true∧(e.on=k∨(e.on<i∧(acc.getD e.on 0).testBit k=true))) →
    ∀i o k,l[i]? =some o→((A9 r acc).getD i 0).testBit k=true→∃e∈o.after,Region.binds .any e=true∧(e.on=k∨(e.on<i∧((A9 r acc).getD e.on 0).testBit k=true))
  | [],acc,hl,_,hacc,i,o,k,hi,h=>by
    have:i<l.length:=(List.getElem?_eq_some_iff.1 hi).1
    exact hacc i o k (by simp at hl;omega) hi h
  | x :: r,acc,hl,hr,hacc,i,o,k,hi,h=>by
    rw[A9]at h ⊢
    refine H6 l r (acc++ [FR acc x]) (by simp at hl ⊢;omega) (fun j=>by have:=hr (j+1);simp at this ⊢;rw[this];congr 1;omega) ?_ i o k hi h
    intro i o k hlt ho ht
    have keep:∀j,j<acc.length→(acc++ [FR acc x]).getD j 0=acc.getD j 0:=fun j hj=>by
      simp[List.getD,List.getElem?_append_left hj]
    simp at hlt
    by_cases hia:i<acc.length
    · rw[keep i hia]at ht
      obtain⟨e,he,hb,hx⟩:=hacc i o k hia ho ht
      exact⟨e,he,hb,hx.imp id (fun h2=>⟨h2.1,by rw[keep _ (by omega)];exact h2.2⟩)⟩
    · have hie:i=acc.length:=by omega
      subst hie
      have a:x=o:=by
        have:=hr 0
        simp[ho]at this
        exact this
      subst a
      have b:(acc++ [FR acc x]).getD acc.length 0=FR acc x:=by simp[List.getD]
      rw[b]at ht
      obtain⟨e,he,hb,hx⟩:=LL ht
      refine⟨e,he,hb,hx.imp id (fun h2=> ?_)⟩
      by_cases hl:e.on<acc.length
      · exact⟨hl,by rw[keep _ hl];exact h2⟩
      · simp[List.getD,List.getElem?_eq_none (show acc.length≤e.on by omega)]at h2

def Hn(l:List Oper)(o:Oper):List Tmp:=o.dst.toList++o.looksAt l.toArray
def CQ(l:List Oper)(size:Nat):Bool:=
  let m:=A9 l []
  l.zipIdx.all fun(o,j)=>
    (o.after.all fun e=> !Region.binds .any e||e.on<j) &&
    (match o.dst with | some d=>decide (d<size) | none=>true) &&
    l.zipIdx.all fun(p,i)=>decide (j≤i)||((match p.dst with | some d=> !(Hn l o).contains d | none=>true)&&(match o.dst with | some d=> !(Hn l p).contains d | none=>true))||(m.getD j 0).testBit i
structure FI (l : List Oper) (size : Nat) : Prop where
  back:∀(j:Nat) (o:Oper),l[j]? =some o→∀e∈o.after,Region.binds .any e=true→e.on<j
  room:∀(j:Nat) (o:Oper) (d:Tmp),l[j]? =some o→o.dst=some d→d<size
  tied:∀(j:Nat) (o:Oper) (i:Nat) (p:Oper) (d:Tmp),l[j]? =some o→l[i]? =some p→i<j→(p.dst=some d∧d∈Hn l o∨o.dst=some d∧d∈Hn l p)→((A9 l []).getD j 0).testBit i=true
theorem E0{l:List Oper}{size:Nat}(h:CQ l size=true):FI l size:=by
  unfold CQ at h
  simp only[List.all_eq_true]at h
  have hz:∀j o,l[j]? =some o→(o,j)∈l.zipIdx:=fun j o ho=>by
    rw[List.mem_zipIdx_iff_getElem?]
    exact ho
  refine⟨fun j o ho e he hb=> ?_,fun j o d ho hd=> ?_,fun j o i p d ho hp hij hx=> ?_⟩
  · have:=h _ (hz j o ho)
    simp only[Bool.and_eq_true]at this
    have h2:=Array.all_eq_true_iff_forall_mem.1 this.1.1 e he
    simpa [hb] using h2
  · have:=h _ (hz j o ho)
    simp only[Bool.and_eq_true,hd]at this
    simpa using this.1.2
  · have:=h _ (hz j o ho)
    simp only[Bool.and_eq_true,List.all_eq_true]at this
    have h2:=this.2 _ (hz i p hp)
    simp only[Bool.or_eq_true,decide_eq_true_eq,Bool.and_eq_true]at h2
    rcases h2 with (h2 | h2) | h2
    · omega
    · exfalso
      rcases hx with ⟨h3,h4⟩ | ⟨h3,h4⟩
      · have h5:=h2.1
        rw[h3]at h5
        simp at h5
        exact h5 h4
      · have h5:=h2.2
        rw[h3]at h5
        simp at h5
        exact h5 h4
    · exact h2

def CX(l:List Oper)(kill:Nat→List Nat):Bool:=
  let m:=A9 l []
  l.zipIdx.all fun(o,j)=>(List.range l.length).all fun n=>decide (n=j)||(kill n).all fun k=>(m.getD n 0).testBit j||(o.looksAt l.toArray).all fun t=>CN l t j != some k
theorem Qg{l:List Oper}{kill:Nat→List Nat}(h:CX l kill=true)(j n k:Nat)(o:Oper)(t:Tmp)(ho:l[j]? =some o)(hn:n<l.length)(hne:n≠j)(hk:k∈kill n)(ht:t∈o.looksAt l.toArray)(hw:CN l t j=some k):((A9 l []).getD n 0).testBit j=true:=by
  unfold CX at h
  simp only[List.all_eq_true]at h
  have h1:=h (o,j) (by rw[List.mem_zipIdx_iff_getElem?];exact ho) n (by simpa using hn)
  simp only[Bool.or_eq_true,decide_eq_true_eq,hne,false_or,List.all_eq_true]at h1
  rcases h1 k hk with h2 | h2
  · exact h2
  · have:=h2 t ht
    simp[hw]at this

section
variable {P : Program} {l : List Oper} {kill : Nat → List Nat} {C : Nat → World → Prop} {E : Array Bool → World → Prop} {R : Nat → World → World → Prop} {Φ : Nat → Bv} {a0 : Act}
def On(listed:Array Bool)(i:Nat):Prop:=listed.getD i false=true
theorem On.lt{listed:Array Bool}{i:Nat}(h:On listed i):i<listed.size:=by
  unfold On at h
  rcases Nat.lt_or_ge i listed.size with h' | h'
  · exact h'
  · simp[Array.getElem?_eq_none h']at h
theorem on_set{listed:Array Bool}{i j:Nat}(hi:i<listed.size):On (listed.setIfInBounds i true) j↔j=i∨On listed j:=by
  unfold On
  by_cases h:i=j
  · subst h;simp[hi]
  · simp[Array.getElem?_setIfInBounds_ne h,Ne.symm h]
structure Inv (l : List Oper) (kill : Nat → List Nat) (C : Nat → World → Prop) (E : Array Bool → World → Prop) (Φ : Nat → Bv) (a0 : Act) (listed : Array Bool) (a : Act) (w : World) : Prop where
  size:listed.size=l.length
  closed:∀i o,l[i]? =some o→On listed i→∀e∈o.after,Region.binds .any e=true→On listed e.on
  defers:a.defers=a0.defers
  tmps:a.tmps.size=a0.tmps.size
  cls:∀n,n<l.length→¬On listed n→C n w
  ecl:E listed w
  old:∀t,(∀k o,l[k]? =some o→o.dst=some t→¬On listed k)→a.tmps.getD t undef=a0.tmps.getD t undef
  new:∀t k o,l[k]? =some o→o.dst=some t→On listed k→(∀k' o',k<k' →l[k']? =some o' →o'.dst=some t→¬On listed k')→(∀n,On listed n→k∉kill n)→Φ k (a.tmps.getD t undef) w
theorem Inv.mask{listed:Array Bool}{a:Act}{w:World}(h:Inv l kill C E Φ a0 listed a w):
    ∀(i k:Nat),On listed i→((A9 l []).getD i 0).testBit k=true→On listed k:=by
  intro i
  induction i using Nat.strongRecOn with
  | _ i ih=>
    intro k hi hk
    have hlt:i<l.length:=by have:=hi.lt;rw[h.size]at this;exact this
    have ho:l[i]? =some l[i]:=List.getElem?_eq_getElem hlt
    obtain⟨e,he,hb,hx⟩:=H6 l l [] (by simp) (by simp) (fun i o k hi=>by simp at hi) i l[i] k ho hk
    have hon:=h.closed i _ ho hi e he hb
    rcases hx with rfl | ⟨b,ht⟩
    · exact hon
    · exact ih e.on b k hon ht
theorem Inv.maskReady{listed:Array Bool}{a:Act}{w:World}(h:Inv l kill C E Φ a0 listed a w){i:Nat}{o:Oper}(ho:l[i]? =some o) 
    (hall:∀e∈o.after,Region.binds .any e=true→On listed e.on) {k:Nat} (hk:((A9 l []).getD i 0).testBit k=true):On listed k:=by
  obtain⟨e,he,hb,hx⟩:=H6 l l [] (by simp) (by simp) (fun i o k hi=>by simp at hi) i o k ho hk
  have hon:=hall e he hb
  rcases hx with rfl | ⟨_,ht⟩
  · exact hon
  · exact h.mask _ _ hon ht
theorem HC{t:Tmp}:∀(n:Nat),CN l t n=none→∀(k:Nat) (o:Oper),k<n→l[k]? =some o→o.dst≠some t
  | 0,_,k,o,hk,_=>by omega
  | n+1,h,k,o,hk,ho=>by
    unfold CN at h
    split at h
    · cases h
    · rename_i hne
      by_cases hkn:k=n
      · subst hkn;intro hd;simp[ho,hd]at hne
      · exact HC n h k o (by omega) ho
theorem Dp{t:Tmp}{k:Nat}:∀(n:Nat),CN l t n=some k→k<n∧(∃o,l[k]? =some o∧o.dst=some t)∧∀(k' :Nat) (o' :Oper),k<k' →k' <n→l[k']? =some o' →o'.dst≠some t
  | 0,h=>by cases h
  | n+1,h=>by
    unfold CN at h
    split at h
    · rename_i he
      have hkn:n=k:=Option.some.inj h
      subst hkn
      refine⟨by omega,?_,fun k' o' h1 h2=>by omega⟩
      cases ho:l[n]? with
      | none=>simp[ho]at he
      | some o=>exact⟨o,rfl,by simpa [ho] using he⟩
    · rename_i hne
      obtain⟨h1,h2,h3⟩:=Dp n h
      refine⟨by omega,h2,fun k' o' hk hk' ho' hd=> ?_⟩
      by_cases he:k' =n
      · subst he;simp[ho',hd]at hne
      · exact h3 k' o' hk (by omega) ho' hd
theorem Inv.look(g:FI l a0.tmps.size)(hkl:CX l kill=true){listed:Array Bool}{a:Act}{w:World}(h:Inv l kill C E Φ a0 listed a w){i:Nat}{o:Oper}(ho:l[i]? =some o)(hi:¬On listed i) 
    (hall:∀e∈o.after,Region.binds .any e=true→On listed e.on) (t:Tmp) (ht:t∈o.looksAt l.toArray):E6 l Φ a0.tmps i t (a.tmps.getD t undef) w:=by
  have hlate:∀k o',i≤k→l[k]? =some o' →o'.dst=some t→¬On listed k:=fun k o' hk ho' hd hon=>by
    by_cases he:k=i
    · subst he;exact hi hon
    · exact hi (h.mask k i hon (g.tied k o' i o t ho' ho (by omega) (.inr ⟨hd,List.mem_append_right _ ht⟩)))
  unfold E6
  split
  · rename_i hw
    refine h.old t fun k o' ho' hd hon=> ?_
    by_cases hk:k<i
    · exact HC _ hw k o' hk ho' hd
    · exact hlate k o' (by omega) ho' hd hon
  · rename_i k hw
    obtain⟨hk,⟨ok,hok,hdk⟩,hno⟩:=Dp _ hw
    refine h.new t k ok hok hdk (h.maskReady ho hall (g.tied i o k ok t ho hok hk (.inl ⟨hdk,List.mem_append_right _ ht⟩))) (fun k' o' hkk ho' hd=> ?_) (fun n hon hkn=> ?_)
    · by_cases hki:k' <i
      · exact absurd hd (hno k' o' hkk hki ho')
      · exact hlate k' o' (by omega) ho' hd
    · have hne:n≠i:=fun e=>hi (e▸hon)
      exact hi (h.mask n i hon (Qg hkl i n k o t ho (by have:=hon.lt;rw[h.size]at this;exact this) hne hkn ht hw))
theorem Inv.put(g:FI l a0.tmps.size)(hC:∀n m,n<l.length→m<l.length→n≠m→((A9 l []).getD n 0).testBit m=false→∀w w',C m w→R n w w' →C m w')(hE:∀n listed w w',n<l.length→listed.size=l.length→¬On listed n→(∀i k,On listed i∨i=n→((A9 l []).getD i 0).testBit k=true→On listed k)→E listed w→R n w w' →E (listed.setIfInBounds n true) w')(hΦ:∀n i,n<l.length→i<l.length→i∉kill n→i≠n→((A9 l []).getD i 0).testBit n=false→∀v w w',Φ i v w→R n w w' →Φ i v w'){listed:Array Bool}{a:Act}{w:World}(h:Inv l kill C E Φ a0 listed a w){i:Nat}{o:Oper}(ho:l[i]? =some o)(hi:¬On listed i) 
    (hall:∀e∈o.after,Region.binds .any e=true→On listed e.on) {v:Value} {w' :World} (hR:R i w w') (hv:Φ i v w'):Inv l kill C E Φ a0 (listed.setIfInBounds i true) (a.put o.dst v) w' :=by
  have hil:i<listed.size:=by rw[h.size];exact(List.getElem?_eq_some_iff.1 ho).1
  have hget:∀t,o.dst≠some t→(a.put o.dst v).tmps.getD t undef=a.tmps.getD t undef:=fun t ht=>by
    cases hd:o.dst with
    | none=>rfl
    | some d=>
      have hne:d≠t:=fun e=>ht (by rw[hd,e])
      simp[Act.put,Array.getElem?_setIfInBounds_ne hne]
  have hilen:i<l.length:=(List.getElem?_eq_some_iff.1 ho).1
  refine⟨by simpa using h.size,fun j oj hj hon e he hb=> ?_,?_,?_,fun m hm hno=> ?_,hE i listed w w' hilen h.size hi (fun j k hj hk=>hj.elim (fun hj=>h.mask j k hj hk) (fun hj=>by subst hj;exact h.maskReady ho hall hk)) h.ecl hR,fun t ht=> ?_,fun t k ok hk hd hon hlast hkl=> ?_⟩
  · rcases(on_set hil).1 hon with rfl | hon
    · obtain rfl:o=oj:=by rw[ho]at hj;exact Option.some.inj hj
      exact(on_set hil).2 (.inr (hall e he hb))
    · exact(on_set hil).2 (.inr (h.closed j oj hj hon e he hb))
  · cases hd:o.dst <;> exact h.defers
  · cases hd:o.dst with
    | none=>exact h.tmps
    | some d=>simpa [Act.put] using h.tmps
  · have hnm:i≠m:=fun e=>hno ((on_set hil).2 (.inl e.symm))
    have hoff:¬On listed m:=fun h' =>hno ((on_set hil).2 (.inr h'))
    refine hC i m hilen hm hnm ?_ _ _ (h.cls m hm hoff) hR
    cases hb:((A9 l []).getD i 0).testBit m with
    | false=>rfl
    | true=>exact absurd (h.maskReady ho hall hb) hoff
  · have hne:o.dst≠some t:=fun hd=>ht i o ho hd ((on_set hil).2 (.inl rfl))
    rw[hget t hne]
    exact h.old t fun k ok hk hd hon=>ht k ok hk hd ((on_set hil).2 (.inr hon))
  · by_cases hdt:o.dst=some t
    · by_cases hki:k=i
      · subst hki
        have hroom:=g.room k o t ho hdt
        have:(a.put o.dst v).tmps.getD t undef=v:=by
          rw[hdt]
          simp[Act.put,h.tmps,hroom]
        rw[this]
        exact hv
      · exfalso
        rcases(on_set hil).1 hon with he | hon
        · exact hki he
        · rcases Nat.lt_or_gt_of_ne hki with hlt | hgt
          · exact hlast i o hlt ho hdt ((on_set hil).2 (.inl rfl))
          · exact hi (h.mask k i hon (g.tied k ok i o t hk ho hgt (.inl ⟨hdt,List.mem_append_left _ (by simp[hd])⟩)))
    · have hki:k≠i:=fun e=>by subst e;rw[ho]at hk;cases hk;exact hdt hd
      rw[hget t hdt]
      have hkon:On listed k:=((on_set hil).1 hon).resolve_left hki
      have hmf:((A9 l []).getD k 0).testBit i=false:=by
        cases hb:((A9 l []).getD k 0).testBit i with
        | false=>rfl
        | true=>exact absurd (h.mask k i hkon hb) hi
      refine hΦ i k (List.getElem?_eq_some_iff.1 ho).1 (List.getElem?_eq_some_iff.1 hk).1 (hkl i ((on_set hil).2 (.inl rfl))) hki hmf _ _ _ (h.new t k ok hk hd (((on_set hil).1 hon).resolve_left hki) (fun k' o' hkk ho' hd' hon' => ?_) (fun n hn=>hkl n ((on_set hil).2 (.inr hn)))) hR
      exact hlast k' o' hkk ho' hd' ((on_set hil).2 (.inr hon'))

theorem Nl(a:Act)(o:Oper):Cl l o (fun t=>a.tmps.getD t undef)=Region.wanted o (yielded l.toArray a.tmps):=by
  unfold Cl Region.wanted yielded
  cases hg:o.guard with
  | none=>rfl
  | some gw=>
    obtain⟨g,want⟩:=gw
    simp only[List.getElem?_toArray]
    cases hd:(l[g]?).bind (·.dst)with
    | none=>simp
    | some t=>
      simp only[Option.bind_some]
      cases hx:a.tmps[t]? with
      | none=>simp[Array.getD_eq_getD_getElem?,hx,undef]
      | some x=>cases x <;> simp[Array.getD_eq_getD_getElem?,hx]

theorem Inv.step(g:FI l a0.tmps.size)(hkl:CX l kill=true)(hC:∀n m,n<l.length→m<l.length→n≠m→((A9 l []).getD n 0).testBit m=false→∀w w',C m w→R n w w' →C m w')(hE:∀n listed w w',n<l.length→listed.size=l.length→¬On listed n→(∀i k,On listed i∨i=n→((A9 l []).getD i 0).testBit k=true→On listed k)→E listed w→R n w w' →E (listed.setIfInBounds n true) w')(hΦ:∀n i,n<l.length→i<l.length→i∉kill n→i≠n→((A9 l []).getD i 0).testBit n=false→∀v w w',Φ i v w→R n w w' →Φ i v w')(hRr:∀n o w,l[n]? =some o→o.guard.isSome=true→R n w w){listed:Array Bool}{a:Act}{w:World}(h:Inv l kill C E Φ a0 listed a w){i:Nat}{o:Oper}(ho:l[i]? =some o)(hi:¬On listed i) 
    (hall:∀e∈o.after,Region.binds .any e=true→On listed e.on) (hs:E7 P l C R Φ a0.tmps i o) {K:Act→World→Prop} {Q:Exit→Act→World→Prop}
    (hK:∀a' w',Inv l kill C E Φ a0 (listed.setIfInBounds i true) a' w' →K a' w'):wpOp P l.toArray Q i K a w:=by
  have hst:=hs (fun t=>a.tmps.getD t undef) w (h.cls i (List.getElem?_eq_some_iff.1 ho).1 hi) (fun t ht=>h.look g hkl ho hi hall t ht)
  rw[Nl,evalR_eq]at hst
  unfold wpOp
  simp only[List.getElem?_toArray,ho]
  by_cases hw:Region.wanted o (yielded l.toArray a.tmps)=true
  · rw[if_pos hw]at hst ⊢
    refine .inl ?_
    unfold Oper.wp
    generalize (execOp a.eval o).run P w=r at hst ⊢
    cases r with
    | halt x w' =>exact hst.elim
    | ok n w' =>
      cases n <;> simp only[Yk]at hst <;> simp only[Oper.upon]
      case value v=>exact hK _ _ (h.put g hC hE hΦ ho hi hall hst.1 hst.2)
      case skip=>exact hK _ _ (h.put g hC hE hΦ ho hi hall hst.1 hst.2)
      case enter f args=>
        refine hst.mono fun e w'' hx=> ?_
        obtain⟨v,rfl,h1,h2⟩:=hx
        exact hK _ _ (h.put g hC hE hΦ ho hi hall h1 h2)
  · rw[if_neg hw]at hst ⊢
    have hgs:o.guard.isSome=true:=by
      cases hgo:o.guard with
      | none=>exact absurd (by unfold Region.wanted;rw[hgo]) hw
      | some x=>rfl
    exact hK _ _ (h.put g hC hE hΦ ho hi hall (hRr i o w ho hgs) hst)

theorem DX:∀(L:List Bool) (i:Nat),L[i]? =some false→((L.set i true).filter (!·)).length+1=(L.filter (!·)).length
  | [],i,h=>by simp at h
  | x :: L,0,h=>by simp at h;subst h;simp
  | x :: L,i+1,h=>by
    have ih:=DX L i (by simpa using h)
    cases x <;> simp <;> omega
theorem D9:∀(L:List Bool),(L.filter (!·)).length=0→∀i:Nat,i<L.length→L[i]? =some true
  | [],_,i,h=>by simp at h
  | x :: L,h0,i,h=>by
    cases x
    · simp at h0
    · cases i with
      | zero=>rfl
      | succ i=>
        rw[List.getElem?_cons_succ]
        exact D9 L (by simpa using h0) i (by simpa using h)

theorem QT(g:FI l a0.tmps.size)(hkl:CX l kill=true)(hC:∀n m,n<l.length→m<l.length→n≠m→((A9 l []).getD n 0).testBit m=false→∀w w',C m w→R n w w' →C m w')(hE:∀n listed w w',n<l.length→listed.size=l.length→¬On listed n→(∀i k,On listed i∨i=n→((A9 l []).getD i 0).testBit k=true→On listed k)→E listed w→R n w w' →E (listed.setIfInBounds n true) w')(hΦ:∀n i,n<l.length→i<l.length→i∉kill n→i≠n→((A9 l []).getD i 0).testBit n=false→∀v w w',Φ i v w→R n w w' →Φ i v w')(hRr:∀n o w,l[n]? =some o→o.guard.isSome=true→R n w w)(hs:StepsOk P l C R Φ a0.tmps 0 l){Q:Exit→Act→World→Prop} 
    (hQ:∀listed a' w',(∀i,i<l.length→On listed i)→Inv l kill C E Φ a0 listed a' w' →Q .normal a' w'):
    ∀(fuel:Nat) (listed:Array Bool) (a:Act) (w:World),(listed.toList.filter (!·)).length=fuel→Inv l kill C E Φ a0 listed a w→wpAny P .any l.toArray Q fuel listed a w:=by
  have full:∀(listed:Array Bool) (a:Act) (w:World),Inv l kill C E Φ a0 listed a w→Region.ready .any l.toArray listed= []→∀i,i<l.length→On listed i:=by
    intro listed a w h hr i
    induction i using Nat.strongRecOn with
    | _ i ih=>
      intro hi
      refine Classical.byContradiction fun hno=> ?_
      have ho:l[i]? =some l[i]:=List.getElem?_eq_getElem hi
      have:i∈Region.ready .any l.toArray listed:=by
        refine mem_ready.2 ⟨?_,l[i],by rw[List.getElem?_toArray];exact ho,fun e he hb=> ?_⟩
        · have hi' :i<listed.size:=by rw[h.size];exact hi
          unfold On at hno
          simp[hi']at hno ⊢
          exact hno
        · have hlt:=g.back i _ ho e he hb
          exact ih e.on hlt (by omega)
      rw[hr]at this
      cases this
  intro fuel
  induction fuel with
  | zero=>
    intro listed a w hf h
    have hon:∀i,i<l.length→On listed i:=fun i hi=>by
      have:=D9 _ hf i (by rw[Array.length_toList,h.size];exact hi)
      unfold On
      simp at this
      simp[this]
    have hr:Region.ready .any l.toArray listed= []:=by
      cases hr:Region.ready .any l.toArray listed with
      | nil=>rfl
      | cons x xs=>
        exfalso
        have hm:x∈Region.ready .any l.toArray listed:=by rw[hr];simp
        obtain⟨h1,o,ho,_⟩:=mem_ready.1 hm
        have hx:x<l.length:=by simpa using (Array.getElem?_eq_some_iff.1 ho).1
        have h2:=hon x hx
        have hx' :x<listed.size:=h2.lt
        unfold On at h2
        simp[hx']at h1 h2
        rw[h1]at h2
        cases h2
    exact⟨hr,hQ _ _ _ hon h⟩
  | succ fuel ih=>
    intro listed a w hf h
    refine⟨fun hr=>hQ _ _ _ (full listed a w h hr) h,fun i hi=> ?_⟩
    obtain⟨h1,o,ho,hall⟩:=mem_ready.1 hi
    have ho' :l[i]? =some o:=by simpa using ho
    have hil:i<listed.size:=by rw[h.size];exact(List.getElem?_eq_some_iff.1 ho').1
    have hno:¬On listed i:=by
      unfold On
      simp[hil]at h1 ⊢
      exact h1
    have hst:=hs.get l 0 i o ho'
    rw[Nat.zero_add]at hst
    refine h.step g hkl hC hE hΦ hRr ho' hno (fun e he hb=>hall e he hb) hst fun a' w' h' =>ih _ _ _ ?_ h'
    rw[Array.toList_setIfInBounds]
    have:=DX listed.toList i (by
      simp[hil]at h1
      simp[hil,h1])
    omega

def slotsW(l:List Oper):List Tmp:=(l.filterMap (·.dst)).eraseDups
def De(T:Array Value)(ds:List Tmp)(u:Tmp→Value):Array Value:=ds.foldl (fun T d=>T.setIfInBounds d (u d)) T
theorem Ea(u:Tmp→Value):∀(ds:List Tmp) (T:Array Value),(De T ds u).size=T.size
  | [],T=>rfl
  | d :: ds,T=>by unfold De;rw[List.foldl_cons];exact(Ea u ds _).trans (by simp)
theorem GI(u:Tmp→Value)(t:Tmp):∀(ds:List Tmp) (T:Array Value),t<T.size→(De T ds u).getD t undef=if t∈ds then u t else T.getD t undef
  | [],T,_=>by simp[De]
  | d :: ds,T,ht=>by
    have ih:=GI u t ds (T.setIfInBounds d (u d)) (by simpa using ht)
    unfold De at ih ⊢
    rw[List.foldl_cons,ih]
    by_cases h1:t∈ds
    · simp[h1]
    · by_cases h2:t=d
      · subst h2;simp[h1,ht]
      · simp[h1,h2,Array.getElem?_setIfInBounds_ne (Ne.symm h2)]
def BY(l:List Oper)(kill:Nat→List Nat)(Φ:Nat→Bv)(u:Tmp→Value)(w:World):List Tmp→Prop
  | []=>True
  | d :: ds=>(match CN l d l.length with | some k=>if(List.range l.length).all (fun n=> !(kill n).contains k)=true then Φ k (u d) w else True | none=>True)∧BY l kill Φ u w ds
theorem DF{u:Tmp→Value}{w:World}(h:∀d k,CN l d l.length=some k→(List.range l.length).all (fun n=> !(kill n).contains k)=true→Φ k (u d) w):∀ds,BY l kill Φ u w ds
  | []=>trivial
  | d :: ds=>⟨by split;(split;(exact h d _ ‹_› ‹_›);trivial);trivial,DF h ds⟩

theorem QU(T:Array Value)(df:List Deferred){Q:Exit→Act→World→Prop}(ds:List Tmp)(hds:slotsW l=ds) 
    (hQ:∀(u:Tmp→Value) listed w',(∀i,i<l.length→On listed i)→E listed w' →BY l kill Φ u w' ds→Q .normal { tmps:=De T ds u,defers:=df } w'):
    ∀listed a' w',(∀i,i<l.length→On listed i)→Inv l kill C E Φ { tmps:=T,defers:=df } listed a' w' →Q .normal a' w' :=by
  intro listed a' w' hon h
  have hw:∀d k,CN l d l.length=some k→(List.range l.length).all (fun n=> !(kill n).contains k)=true→Φ k (a'.tmps.getD d undef) w' :=fun d k hk hall=>by
    obtain⟨h1,⟨o,ho,hd⟩,h3⟩:=Dp _ hk
    refine h.new d k o ho hd (hon k h1) (fun k' o' hkk ho' hd' _=>h3 k' o' hkk (List.getElem?_eq_some_iff.1 ho').1 ho' hd') (fun n hn hkn=> ?_)
    have hnl:n<l.length:=by have:=hn.lt;rw[h.size]at this;exact this
    have:=List.all_eq_true.1 hall n (by simpa using hnl)
    simp at this
    exact this hkn
  have hq:=hQ (fun t=>a'.tmps.getD t undef) listed w' hon h.ecl (DF hw ds)
  have he:a' = { tmps:=De T ds (fun t=>a'.tmps.getD t undef),defers:=df } :=by
    have h1:a'.tmps=De T ds (fun t=>a'.tmps.getD t undef):=by
      apply Array.ext (by rw[Ea];exact h.tmps)
      intro t ht1 ht2
      have ht3:t<T.size:=by rw[Ea]at ht2;exact ht2
      have hx:=GI (fun t=>a'.tmps.getD t undef) t ds T ht3
      have a:∀(A:Array Value) (ht:t<A.size),A.getD t undef=A[t]:=fun A ht=>by
        rw[Array.getD_eq_getD_getElem?,Array.getElem?_eq_getElem ht,Option.getD_some]
      rw[a _ ht2]at hx
      by_cases hn:t∈ds
      · rw[if_pos hn,a _ ht1]at hx
        exact hx.symm
      · rw[if_neg hn,a _ ht3]at hx
        have ho:a'.tmps.getD t undef=T.getD t undef:=h.old t fun k o ho hd _=>hn (by
          rw[←hds]
          unfold slotsW
          rw[List.mem_eraseDups,List.mem_filterMap]
          exact⟨o,List.mem_of_getElem? ho,hd⟩)
        rw[a _ ht1,a _ ht3]at ho
        exact ho.trans hx.symm
    have h2:=h.defers
    cases a'
    simp only at h1 h2
    subst h2
    rw[←h1]
  rw[he]
  exact hq
theorem I5(kill:Nat→List Nat)(C:Nat→World→Prop)(E:Array Bool→World→Prop)(R:Nat→World→World→Prop)(Φ:Nat→Bv){id:Nat}{Q:Exit→Act→World→Prop}{w:World}(hm:P.follows .mixedOrders=true)(T:Array Value)(df:List Deferred) 
    (hg:CQ l T.size=true) (hkl:CX l kill=true) (ds:List Tmp) (hds:slotsW l=ds) (hC:∀n m,n<l.length→m<l.length→n≠m→((A9 l []).getD n 0).testBit m=false→∀w w',C m w→R n w w' →C m w') (hE:∀n listed w w',n<l.length→listed.size=l.length→¬On listed n→(∀i k,On listed i∨i=n→((A9 l []).getD i 0).testBit k=true→On listed k)→E listed w→R n w w' →E (listed.setIfInBounds n true) w') (hΦ:∀n i,n<l.length→i<l.length→i∉kill n→i≠n→((A9 l []).getD i 0).testBit n=false→∀v w w',Φ i v w→R n w w' →Φ i v w') (hRr:∀n o w,l[n]? =some o→o.guard.isSome=true→R n w w)
    (h0:∀n,n<l.length→C n { w with drawn:=w.drawn+1 }) (h1:E (Array.replicate l.toArray.size false) { w with drawn:=w.drawn+1 })
    (hs:StepsOk P l C R Φ T 0 l)
    (hQ:∀(u:Tmp→Value) listed w',(∀i,i<l.length→On listed i)→E listed w' →BY l kill Φ u w' ds→Q .normal { tmps:=De T ds u,defers:=df } w'):(Code.region id l.toArray true).wp P Q { tmps:=T,defers:=df } w:=by
  have g:=E0 hg
  refine wp_region_any hm (QT (a0:= { tmps:=T,defers:=df }) g hkl hC hE hΦ hRr hs (fun listed a' w' hon h=> ?_) _ _ _ _ (by simp) ?_)
  · exact QU T df ds hds hQ listed a' w' hon h
  · have hno:∀i,¬On (Array.replicate l.toArray.size false) i:=fun i h=>by
      unfold On at h
      rw[Array.getD_eq_getD_getElem?,Array.getElem?_replicate]at h
      split at h <;> simp at h
    exact⟨Array.size_replicate,fun i o _ h=>absurd h (hno i),rfl,rfl,fun n hn _=>h0 n hn,h1,fun t _=>rfl,fun t k o _ _ h=>absurd h (hno k)⟩
theorem Fq(kill:Nat→List Nat)(C:World→Prop)(R:Nat→World→World→Prop)(Φ:Nat→Bv){id:Nat}{Q:Exit→Act→World→Prop}{w:World}(hm:P.follows .mixedOrders=true)(T:Array Value)(df:List Deferred) 
    (hg:CQ l T.size=true) (hkl:CX l kill=true) (ds:List Tmp) (hds:slotsW l=ds) (hC:∀n w w',C w→R n w w' →C w') (hΦ:∀n i,n<l.length→i<l.length→i∉kill n→i≠n→((A9 l []).getD i 0).testBit n=false→∀v w w',Φ i v w→R n w w' →Φ i v w') (hRr:∀n o w,l[n]? =some o→o.guard.isSome=true→R n w w) (h0:C { w with drawn:=w.drawn+1 })
    (hs:StepsOk P l (fun _=>C) R Φ T 0 l)
    (hQ:∀(u:Tmp→Value) w',C w' →BY l kill Φ u w' ds→Q .normal { tmps:=De T ds u,defers:=df } w'):(Code.region id l.toArray true).wp P Q { tmps:=T,defers:=df } w:=
  I5 kill (fun _=>C) (fun _=>C) R Φ hm T df hg hkl ds hds (fun n _ _ _ _ _=>hC n) (fun n _ w w' _ _ _ _=>hC n w w') hΦ hRr (fun _ _=>h0) h0 hs (fun u _ w' _=>hQ u w')
theorem E8{C:Nat→World→Prop}{R:Nat→World→World→Prop}{T:Array Value}{n:Nat}{o:Oper}(hg:o.guard=none) 
    (h:∀ρ w,C n w→(∀t∈o.looksAt l.toArray,E6 l Φ T n t (ρ t) w)→Yk P (fun v w' =>R n w w' ∧Φ n v w') ((execOp (Ag ρ) o).run P w)):E7 P l C R Φ T n o:=by
  intro ρ w hC hl
  have:Cl l o ρ=true:=by unfold Cl;rw[hg]
  rw[if_pos this]
  exact h ρ w hC hl
theorem Yk.value{K:Value→World→Prop}{r:Result Next}{v:Value}{w' :World}(hr:r = .ok (.value v) w')(h:K v w'):Yk P K r:=by rw[hr];exact h
theorem Yk.enter{K:Value→World→Prop}{r:Result Next}{f:FuncId}{args:Array Value}{w' :World}(hr:r = .ok (.enter f args) w')(h:Calls P f args w' fun e w'' =>∃v,e = .returned v∧K v w''):Yk P K r:=by rw[hr];exact h
end
def AI(P:Program)(f:FuncId):Prop:=∀xs w,(callFunc f xs).run P w = .ok (.enter f xs) w
theorem GJ{P:Program}{f:FuncId}(hp:AI P f)(ρ:Operand→Value)(args:List Operand)(at_:Array TypeId)(dst:Option Tmp)(ty:TypeId)(pos:String)(af:Array Edge)(gd:Option (Nat × Bool))(w:World) 
    (hρ:ρ (.func f) = .func (.func f) #[] #[]):(execOp ρ ⟨dst, .call ⟨.value (.func f),args.toArray,at_⟩,ty,pos,af,gd⟩).run P w = .ok (.enter f (args.map ρ).toArray) w:=by
  simp[execOp,resolve,invoke,Deferred.ofValue,hρ,hp _ w]
theorem Yk.call{P:Program}{K:Value→World→Prop}{f:FuncId}(hp:AI P f){ρ:Tmp→Value}{args:List Operand}{at_:Array TypeId}{dst:Option Tmp}{ty:TypeId}{pos:String}{af:Array Edge}{gd:Option (Nat × Bool)}{w:World} 
    (h:Calls P f (args.map (Ag ρ)).toArray w fun e w'' =>∃v,e = .returned v∧K v w''):Yk P K ((execOp (Ag ρ) ⟨dst, .call ⟨.value (.func f),args.toArray,at_⟩,ty,pos,af,gd⟩).run P w):=
  Yk.enter (GJ hp (Ag ρ) args at_ dst ty pos af gd w rfl) h

def Stab(R:World→World→Prop)(φ:Bv):Prop:=∀v w w',φ v w→R w w' →φ v w'
theorem Stab.is{R:World→World→Prop}(v:Value):Stab R (Is v):=fun _ _ _ h _=>h
theorem Stab.any{R:World→World→Prop}:Stab R (fun _ _=>True):=fun _ _ _ _ _=>trivial
def AllStab(R:World→World→Prop):List Bv→Prop
  | []=>True
  | φ :: r=>Stab R φ∧AllStab R r
theorem DG{R:World→World→Prop}{a b:Value}{Φs:List Bv}(h:AllStab R Φs):AllStab R (Is a :: Is b :: Φs):=⟨Stab.is _,Stab.is _,h⟩
theorem QV{R:World→World→Prop}{a b c:Value}{Φs:List Bv}(h:AllStab R Φs):AllStab R (Is a :: Is b :: Is c :: Φs):=⟨Stab.is _,Stab.is _,Stab.is _,h⟩
theorem EJ{R:World→World→Prop}{a b c e:Value}{Φs:List Bv}(h:AllStab R Φs):AllStab R (Is a :: Is b :: Is c :: Is e :: Φs):=⟨Stab.is _,Stab.is _,Stab.is _,Stab.is _,h⟩
theorem Mh{R:World→World→Prop}{a b c e f:Value}{Φs:List Bv}(h:AllStab R Φs):AllStab R (Is a :: Is b :: Is c :: Is e :: Is f :: Φs):=⟨Stab.is _,Stab.is _,Stab.is _,Stab.is _,Stab.is _,h⟩
theorem QW{R:World→World→Prop}{a b c e f g:Value}{Φs:List Bv}(h:AllStab R Φs):AllStab R (Is a :: Is b :: Is c :: Is e :: Is f :: Is g :: Φs):=⟨Stab.is _,Stab.is _,Stab.is _,Stab.is _,Stab.is _,Stab.is _,h⟩
theorem RQ{R:World→World→Prop}{a b c e f g i:Value}{Φs:List Bv}(h:AllStab R Φs):AllStab R (Is a :: Is b :: Is c :: Is e :: Is f :: Is g :: Is i :: Φs):=⟨Stab.is _,Stab.is _,Stab.is _,Stab.is _,Stab.is _,Stab.is _,Stab.is _,h⟩
theorem RR{R:World→World→Prop}{a b c e f g i j:Value}{Φs:List Bv}(h:AllStab R Φs):AllStab R (Is a :: Is b :: Is c :: Is e :: Is f :: Is g :: Is i :: Is j :: Φs):=⟨Stab.is _,Stab.is _,Stab.is _,Stab.is _,Stab.is _,Stab.is _,Stab.is _,Stab.is _,h⟩
theorem RS{R:World→World→Prop}{a b c e f g i j k:Value}{Φs:List Bv}(h:AllStab R Φs):AllStab R (Is a :: Is b :: Is c :: Is e :: Is f :: Is g :: Is i :: Is j :: Is k :: Φs):=⟨Stab.is _,Stab.is _,Stab.is _,Stab.is _,Stab.is _,Stab.is _,Stab.is _,Stab.is _,Stab.is _,h⟩
theorem KO{R:World→World→Prop}{a b c e f g i j k l:Value}{Φs:List Bv}(h:AllStab R Φs):AllStab R (Is a :: Is b :: Is c :: Is e :: Is f :: Is g :: Is i :: Is j :: Is k :: Is l :: Φs):=⟨Stab.is _,Stab.is _,Stab.is _,Stab.is _,Stab.is _,Stab.is _,Stab.is _,Stab.is _,Stab.is _,Stab.is _,h⟩
theorem CG{R:World→World→Prop}{a b c e f g i j k l m n:Value}{Φs:List Bv}(h:AllStab R Φs):AllStab R (Is a :: Is b :: Is c :: Is e :: Is f :: Is g :: Is i :: Is j :: Is k :: Is l :: Is m :: Is n :: Φs):=⟨Stab.is _,Stab.is _,Stab.is _,Stab.is _,Stab.is _,Stab.is _,Stab.is _,Stab.is _,Stab.is _,Stab.is _,Stab.is _,Stab.is _,h⟩
theorem AllStab.get{R:World→World→Prop}:∀(Φs:List Bv),AllStab R Φs→∀i,Stab R (Φs.getD i (fun _ _=>True))
  | [],_,i=>by simpa using Stab.any
  | φ :: r,h,0=>h.1
  | φ :: r,h,i+1=>by simpa using AllStab.get r h.2 i
def Bo(Φs:List Bv)(i:Nat):Bv:=Φs.getD i (fun _ _=>True)
def Ext(w w' :World):Prop:=Below w.heap.size w w'
theorem Ext.refl(w:World):Ext w w:=Below.refl _ _
theorem Ext.trans{a b c:World}(h:Ext a b)(k:Ext b c):Ext a c:=Below.trans h (k.mono h.size)

theorem Kg{P:Program}{l:List Oper}(Φs:List Bv){id:Nat}{Q:Exit→Act→World→Prop}{w:World}(hm:P.follows .mixedOrders=true)(T:Array Value)(df:List Deferred) 
    (hg:CQ l T.size=true) (ds:List Tmp) (hds:slotsW l=ds) (hst:AllStab Ext Φs) (hs:StepsOk P l (fun _=>Ext w) (fun _=>Ext) (Bo Φs) T 0 l)
    (hQ:∀(u:Tmp→Value) w',Ext w w' →BY l (fun _=> []) (Bo Φs) u w' ds→Q .normal { tmps:=De T ds u,defers:=df } w'):(Code.region id l.toArray true).wp P Q { tmps:=T,defers:=df } w:=
  Fq (fun _=> []) (Ext w) (fun _=>Ext) (Bo Φs) hm T df hg
    (by unfold CX;simp) ds hds (fun _ _ _ h k=>h.trans k) (fun _ i _ _ _ _ _=>hst.get Φs i) (fun _ _ w _ _=>Ext.refl w) (Below.refl _ _).drew hs hQ
def Ho(l:List Oper)(n:Nat):Bool:=l.length==n+1&&(List.range n).all fun m=>((A9 l []).getD n 0).testBit m
theorem Jp{l:List Oper}{n:Nat}(h:Ho l n=true):l.length=n+1∧∀m,m<n→((A9 l []).getD n 0).testBit m=true:=by
  unfold Ho at h
  simp only[Bool.and_eq_true,beq_iff_eq,List.all_eq_true,List.mem_range]at h
  exact h
theorem On.not_replicate{n i:Nat}:¬On (Array.replicate n false) i:=fun h=>by
  unfold On at h
  rw[Array.getD_eq_getD_getElem?,Array.getElem?_replicate]at h
  split at h <;> simp at h
theorem I6{P:Program}{l:List Oper}(ks:List Nat)(kill:Nat→List Nat)(C:World→Prop)(Rk:World→World→Prop)(Φs:List Bv){id:Nat}{Q:Exit→Act→World→Prop}{w:World}(hm:P.follows .mixedOrders=true)(T:Array Value)(df:List Deferred) 
    (hg:CQ l T.size=true) (hkl:CX l kill=true) (ds:List Tmp) (hds:slotsW l=ds) (hC:∀w w',C w→Ext w w' →C w') (hCk:∀w w',C w→Rk w w' →C w') (hRk:∀w,Rk w w) (h0:C w.drew) (hst:AllStab Ext Φs)
    (hsk:∀n i,n∈ks→i<l.length→i∉kill n→i≠n→((A9 l []).getD i 0).testBit n=false→Stab Rk (Bo Φs i))
    (hs:StepsOk P l (fun _=>C) (fun n=>if n∈ks then Rk else Ext) (Bo Φs) T 0 l)
    (hQ:∀(u:Tmp→Value) w',C w' →BY l kill (Bo Φs) u w' ds→Q .normal { tmps:=De T ds u,defers:=df } w'):(Code.region id l.toArray true).wp P Q { tmps:=T,defers:=df } w:=by
  refine Fq kill C (fun n=>if n∈ks then Rk else Ext) (Bo Φs) hm T df hg hkl ds hds (fun n w w' h k=> ?_) (fun n i _ hi hk hne hb=> ?_) (fun n _ w _ _=> ?_) h0 hs hQ
  · by_cases hn:n∈ks
    · rw[if_pos hn]at k;exact hCk _ _ h k
    · rw[if_neg hn]at k;exact hC _ _ h k
  · by_cases hn:n∈ks
    · rw[if_pos hn];exact hsk n i hn hi hk hne hb
    · rw[if_neg hn];exact hst.get Φs i
  · by_cases hn:n∈ks
    · rw[if_pos hn];exact hRk w
    · rw[if_neg hn];exact Ext.refl w
open Go.RowKit
variable {P : Program}
theorem KP{w:World}{src dst e:TypeId}(hs:P.underlying src=some (.slice e))(he:P.underlying e=some (.int .u8))(hd:P.underlying dst=some .string){v:Value}{l:List UInt8}(h:RB w v l):
    (convert src dst v).run P w = .ok (.string ⟨l.toArray⟩) w:=by
  obtain⟨h1,ao,cap,rfl,h2,h3,h4,h5⟩:=h
  cases ao with
  | none=>
    obtain⟨h6,rfl⟩:=h4 rfl
    have:l= []:=List.eq_nil_of_length_eq_zero h6
    subst this
    rw[run_convert_bytes_string w src dst e _ _ _ hs he hd]
    simp[Conv.bytesToString,Sem.run_pure]
    rfl
  | some a=>exact run_convert_bytes_back w src dst e a cap l hs he hd (fun j hj=>h5 a rfl j _ (by simp[Lib.byteCells,hj]))
theorem LM{ops:Array Oper}{rest:List Oper}{o:Oper}{a:Act}{w:World}{Q:Exit→Act→World→Prop}(hgd:o.guard=none)(src dst:TypeId)(x:Operand)(ho:o.op = .convert src dst x) 
    {e:TypeId} (hs:P.underlying src=some (.slice e)) (he:P.underlying e=some (.int .u8)) (hd:P.underlying dst=some .string) (v:Value) (l:List UInt8) (hx:a.eval x=v) (h:RB w v l)
    (hK:wpList P ops Q rest (a.put o.dst (.string ⟨l.toArray⟩)) w):wpList P ops Q (o :: rest) a w:=
  wpList_plain hgd fun K hK' =>by
    have hr:=KP (P:=P) hs he hd h
    unfold Oper.wp execOp
    simp only[ho,hx,hr,Sem.run_bind,Sem.run_pure,Result.andThen_ok]
    exact hK' _ _ hK

theorem Yk.append{K:Value→World→Prop}{ρ:Tmp→Value}(s x:Operand){t tx:TypeId}{d:Option Tmp}{ty:TypeId}{pos:String}{af:Array Edge}{gd:Option (Nat × Bool)}{w:World} 
    (base:Nat) (e:TypeId) (z:Value) (size bytes:Nat) (ht:P.underlying t=some (.slice e)) (hi:(P.info? e).map (fun i=>(i.zero,i.size,i.bytes))=some (some z,size,bytes)) (hzs:z.cells.size=size)
    (n:Nat) (xs:List Value) (hown:w.ownsRow base e size (Ag ρ s) n xs) (m:Nat) (news:List Value) (hsrc:Src P size tx (Ag ρ x) m news w)
    (h63:n+m≤maxLen) (hbytes:(n+m)*bytes≤140737488355328) (hbase:base≤w.heap.size)
    (h:∀v' w',w'.ownsRow base e size v' (n+m) (xs++news)→Grew w w' (Ag ρ s) v' →K v' w'):
    Yk P K ((execOp (Ag ρ) ⟨d, .call ⟨.builtin .append,[s,x].toArray,[t,tx].toArray⟩,ty,pos,af,gd⟩).run P w):=by
  obtain⟨i,hi,hz,hsize,hby⟩:=info_parts hi
  obtain⟨v',w',hr,h2,h3⟩:=FQ (P:=P) w base t tx ty e i z size bytes ht hi hz hsize hby hzs (Ag ρ s) n xs hown (Ag ρ x) m news hsrc h63 hbytes hbase
  refine Yk.value (v:=v') (w' :=w') ?_ (h v' w' h2 h3)
  unfold execOp
  simp only[resolve,invoke,builtin,Sem.run_bind,Sem.run_pure,Result.andThen_ok,List.map_toArray,List.map_cons,List.map_nil,hr]

theorem Stab.rb(l:List UInt8):Stab Ext (fun x w=>RB w x l):=fun _ _ _ h k=>h.keep k
theorem Ext.grown{w w' :World}(h:Ext w w'):w.grownBy w' none:=⟨h.os,h.tape,h.output,h.size,fun k hk _=>h.block k hk⟩
theorem Ext.of{w w' :World}(h:w.grownBy w' none):Ext w w' :=(Below.refl _ _).grown h (Nat.le_refl _) (fun k hk=>by cases hk)
theorem Stab.own(base:Nat)(e:TypeId)(size:Nat)(n:Nat)(xs:List Value):Stab Ext (fun x w=>w.ownsRow base e size x n xs):=fun v _ _ h k=>h.kept k.grown (by cases v.ownBlock <;> simp)
theorem NewB.ext{e:TypeId}{w w' :World}{v:Value}{l:List UInt8}(h:NewB e w w' v l):Ext w w' :=h.below

theorem Ext.blk'{w w' :World}(h:Ext w w'){b:Nat}{o:Obj}(hb:w.heap[b]? =some o):w'.heap[b]? =some o:=
  (h.block b (Array.getElem?_eq_some_iff.1 hb).1).trans hb
theorem eb{w w' :World}(h:Ext w w'){b:Nat}{o:Obj}(hb:w.heap[b]? =some o):w'.heap[b]? =some o:=Ext.blk' h hb
theorem Yk.copyB{K:Value→World→Prop}{ρ:Tmp→Value}(s x:Operand){dT sT elem:TypeId}{d:Option Tmp}{ty:TypeId}{pos:String}{af:Array Edge}{gd:Option (Nat × Bool)}{w:World} 
    (hu:P.underlying dT=some (.slice elem)) (hsz:(P.info? elem).map (·.size)=some 1) {g o dLen dCap:Nat} (hs:Ag ρ s = .slice (some ⟨g,o,none⟩) dLen dCap) {l:List UInt8} (hx:RB w (Ag ρ x) l)
    {cur:Array Value} {t:TypeId} (hg:w.heap[g]? =some (.cells cur t (0,0))) (hfit:o+Nat.min l.length dLen≤cur.size)
    (h:K (goInt (Nat.min l.length dLen)) (w.setRow g (cur.toList.take o++Lib.byteCells (l.take dLen)++cur.toList.drop (o+Nat.min l.length dLen)).toArray)):
    Yk P K ((execOp (Ag ρ) ⟨d, .call ⟨.builtin .copy,[s,x].toArray,[dT,sT].toArray⟩,ty,pos,af,gd⟩).run P w):=by
  obtain⟨h1,ao,cap,hv,h2,h3,h4,h5⟩:=hx
  have hlen:(Lib.byteCells (l.take dLen)).length=Nat.min l.length dLen:=by rw[Lib.byteCells_length,List.length_take];exact Nat.min_comm _ _
  refine Yk.value (v:=goInt (Nat.min l.length dLen)) (w' :=w.setRow g (cur.toList.take o++Lib.byteCells (l.take dLen)++cur.toList.drop (o+Nat.min l.length dLen)).toArray) ?_ h
  have hrun:(Builtin.copy_ #[dT,sT] ty #[.slice (some ⟨g,o,none⟩) dLen dCap, .slice ao l.length cap]).run P w = .ok (goInt (Nat.min l.length dLen)) (w.setRow g (cur.toList.take o++Lib.byteCells (l.take dLen)++cur.toList.drop (o+Nat.min l.length dLen)).toArray):=by
    cases ao with
    | none=>
      obtain⟨h6,rfl⟩:=h4 rfl
      have:l= []:=List.eq_nil_of_length_eq_zero h6
      subst this
      have hr:=run_copy_nil (P:=P) w dT sT ty elem ⟨g,o,none⟩ dLen dCap hu (by rw[hsz];rfl)
      have e:(cur.toList.take o++Lib.byteCells ([].take dLen)++cur.toList.drop (o+Nat.min ([]:List UInt8).length dLen)).toArray=cur:=by
        simp[Lib.byteCells]
      rw[e,setRow_self w g cur t (0,0) hg]
      simpa using hr
    | some a=>
      have hr:=run_copy_row (P:=P) w dT sT ty elem g o dLen dCap a l.length cap cur t (Lib.byteCells (l.take dLen)) hu hsz hg hlen (fun j v hj=>h5 a rfl j v (by
        have hj' :=hj
        simp only[Lib.byteCells,List.map_take,List.getElem?_take]at hj'
        split at hj'
        · exact hj'
        · cases hj')) (by rw[hlen];exact hfit) (Ay _)
      rw[hlen]at hr
      exact hr
  unfold execOp
  simp only[resolve,invoke,builtin,Sem.run_bind,Sem.run_pure,Result.andThen_ok,List.map_toArray,List.map_cons,List.map_nil,hs,hv,hrun]

theorem GK{ops:Array Oper}{rest:List Oper}{o:Oper}{a:Act}{w:World}{Q:Exit→Act→World→Prop}(hgd:o.guard=none)(v:Value)(w' :World)(hr:(execOp a.eval o).run P w = .ok (.value v) w') 
    (h:wpList P ops Q rest (a.put o.dst v) w'):wpList P ops Q (o :: rest) a w:=
  wpList_plain hgd fun K hK=>by
    unfold Oper.wp
    rw[hr]
    exact hK _ _ h
/-! ### Whole arrays and structs in blocks of their own -/
theorem Fr(w:World)(g:Nat)(ty:TypeId)(cells cur:Array Value)(t:TypeId)(hg:w.heap[g]? =some (.cells cur t (0,0)))(hs:cells.size=cur.size)(hi:(P.info? ty).map (·.size)=some cells.size)(h1:∀v∈cells.toList,v.oneCell' =true):
    (Instr.storeAt ty (.pointer (some ⟨g,0,none⟩)) (.agg cells)).run P w = .ok () (w.setRow g cells):=by
  have hst:=run_storeCells_at P g 0 t cells.toList 0 cur w hg (by simp[hs]) h1
  have e:(cur.toList.take (0+0)++cells.toList++cur.toList.drop (0+0+cells.toList.length)).toArray=cells:=by
    simp
    rw[List.drop_of_length_le (by simp[hs])]
    simp
  rw[e]at hst
  cases hq:P.info? ty with
  | none=>simp[hq]at hi
  | some i=>
    have hs:cells.size=i.size:=by simp[hq]at hi;omega
    simp[Instr.storeAt,Instr.sureAddr,storeVar,sizeOf,typeInfo,hq,Value.cells,hs,hst]
theorem H7{ops:Array Oper}{rest:List Oper}{o:Oper}{a:Act}{w:World}{Q:Exit→Act→World→Prop}(hgd:o.guard=none)(ty:TypeId)(x y:Operand)(ho:o.op = .store ty x y) 
    (g:Nat) (hx:a.eval x = .pointer (some ⟨g,0,none⟩)) (cells cur:Array Value) (t:TypeId) (hy:a.eval y = .agg cells) (hg:w.heap[g]? =some (.cells cur t (0,0))) (hs:cells.size=cur.size) (hi:(P.info? ty).map (·.size)=some cells.size) (h1:∀v∈cells.toList,v.oneCell' =true)
    (h:wpList P ops Q rest (a.put o.dst undef) (w.setRow g cells)):wpList P ops Q (o :: rest) a w:=
  wpList_plain hgd fun K hK=>by
    have hr:=Fr (P:=P) w g ty cells cur t hg hs hi h1
    unfold Oper.wp execOp
    simp only[ho,hx,hy,hr,Sem.run_bind,Sem.run_pure,Result.andThen_ok]
    exact hK _ _ h
theorem EK{ops:Array Oper}{rest:List Oper}{o:Oper}{a:Act}{w:World}{Q:Exit→Act→World→Prop}(hgd:o.guard=none)(ty:TypeId)(x y:Operand)(ho:o.op = .store ty x y) 
    (g:Nat) (hx:a.eval x = .pointer (some ⟨g,0,none⟩)) (cells:Array Value) (t:TypeId) (hy:a.eval y = .agg cells) (hg:w.heap[g]? =some (.cells cells t (0,0))) (hi:(P.info? ty).map (·.size)=some cells.size) (h1:∀v∈cells.toList,v.oneCell' =true)
    (h:wpList P ops Q rest (a.put o.dst undef) w):wpList P ops Q (o :: rest) a w:=
  H7 hgd ty x y ho g hx cells cells t hy hg rfl hi h1 (by rw[setRow_self w g cells t (0,0) hg];exact h)
theorem GB{fn:Func}{p q r:Tmp}{ty:TypeId}(h:fn.results = #[.cell p ty, .tmp q, .tmp r])(tmps:Array Value)(w:World)(g:Nat)(t:TypeId)(cs:Array Value)(fr:Nat × Nat)(d:TypeDesc) 
    (hp:tmps.getD p undef = .pointer (some ⟨g,0,none⟩)) (hg:w.heap[g]? =some (.cells cs t fr))
    (hu:P.underlying ty=some d) (hd:(match d with | .struct _ | .array _ _=>true | _=>false)=true) (hi:(P.info? ty).map (·.size)=some cs.size):
    (results fn tmps).run P w = .ok (.tuple #[.agg cs,tmps.getD q undef,tmps.getD r undef]) w:=by
  have hp' :tmps[p]?.getD undef = .pointer (some ⟨g,0,none⟩):=by simpa using hp
  simp[results,h,hp',asAddr,run_loadVar_row w g t ty cs fr d hg hu hd hi]
/-! ### Slices of slices -/
theorem E9(a:Addr)(m n:Nat):(a.add m).add n=a.add (m+n):=by
  cases a with
  | mk b o sp=>
    unfold Addr.add
    split <;> split <;> simp_all
    all_goals (try omega)
theorem Eu{t e:TypeId}{size:Nat}(ht:P.underlying t=some (.slice e))(he:∀w' :World,(sizeOf e).run P w' = .ok size w'){w:World}{v:Value}{n:Nat}{xs:List Value}(hr:Reads w size v n xs)(lo hi:Option Value)(l h:Nat)(hlh:l≤h)(hn:h≤n) 
    (hlo:lo=none∧l=0∨∃k,lo=some (.int k l)) (hhi:hi=none∧h=n∨∃k,hi=some (.int k h)):
    ∃ao c,((Instr.sliceAt t v lo hi none).run P w = .ok (.slice ao (h-l) c) w∧(Value.slice ao (h-l) c).ownBlock=v.ownBlock)∧Reads w size (.slice ao (h-l) c) (h-l) ((xs.drop (l*size)).take ((h-l)*size)):=by
  obtain⟨h1,ao,cap,rfl,h2,h3,h4,h5⟩:=hr
  have hE:P.elem t=e:=by simp[Program.elem,ht]
  have ht' :P.underlying t=some (.slice (P.elem t)):=by rw[hE];exact ht
  refine⟨if cap=l then ao else ao.map (·.add (l*size)),cap-l,⟨?_,?_⟩,?_,_,_,rfl,by omega,by omega,?_,?_⟩
  · rw[run_sliceAt_slice (P:=P) w t _ _ _ _ ht']
    have hl' :(l:Int)≤(h:Int):=by omega
    have hh' :(h:Int)≤(cap:Int):=by omega
    have hn' :(l:Int)≤(n:Int):=by omega
    rcases hlo with ⟨rfl,rfl⟩ | ⟨k,rfl⟩ <;> rcases hhi with ⟨rfl,rfl⟩ | ⟨k',rfl⟩
    · rw[run_slice_all (P:=P) w t ao h cap ht',hE,he]
      simp[Result.andThen,sliced]
    · rw[run_slice_h (P:=P) w t ao n cap ht' k' h (by omega) hh',hE,he]
      simp[Result.andThen,sliced]
    · rw[run_slice_l (P:=P) w t ao h cap ht' k l (by omega) hl',hE,he]
      simp[Result.andThen,sliced]
    · rw[run_slice_lh (P:=P) w t ao n cap ht' k k' l h (by omega) hl' hh',hE,he]
      simp[Result.andThen,sliced]
  · cases ao with
    | none=>simp[Value.ownBlock]
    | some x=>
      split
      · rfl
      · simp only[Option.map_some,Value.ownBlock,Option.some.injEq]
        unfold Addr.add
        split <;> rfl
  · rw[List.length_take,List.length_drop,h1]
    have:(h-l)*size≤n*size-l*size:=by rw[←Nat.sub_mul];exact Nat.mul_le_mul_right _ (by omega)
    omega
  · intro hnone
    have:ao=none:=by
      cases ao with
      | none=>rfl
      | some x=>split at hnone <;> simp at hnone
    obtain⟨h6,h7⟩:=h4 this
    omega
  · intro a ha j u hu
    have hj:j<((xs.drop (l*size)).take ((h-l)*size)).length:=(List.getElem?_eq_some_iff.1 hu).1
    have hj2:j<(h-l)*size:=by rw[List.length_take]at hj;omega
    have hhl:h-l≠0:=fun e=>by rw[e]at hj2;simp at hj2
    rw[if_neg (by omega)]at ha
    cases ao with
    | none=>simp at ha
    | some x=>
      simp at ha
      subst ha
      rw[E9]
      refine h5 x rfl _ _ ?_
      rw[List.getElem?_take,if_pos hj2,List.getElem?_drop]at hu
      exact hu
theorem Hz{t e:TypeId}{size:Nat}(ht:P.underlying t=some (.slice e))(he:∀w' :World,(sizeOf e).run P w' = .ok size w'){w:World}{v:Value}{n:Nat}{xs:List Value}(hr:Reads w size v n xs)(lo hi:Option Value)(l h:Nat)(hlh:l≤h)(hn:h≤n) 
    (hlo:lo=none∧l=0∨∃k,lo=some (.int k l)) (hhi:hi=none∧h=n∨∃k,hi=some (.int k h)):
    ∃ao c,(Instr.sliceAt t v lo hi none).run P w = .ok (.slice ao (h-l) c) w∧Reads w size (.slice ao (h-l) c) (h-l) ((xs.drop (l*size)).take ((h-l)*size)):=by
  obtain⟨ao,c,h1,h2⟩:=Eu ht he hr lo hi l h hlh hn hlo hhi
  exact⟨ao,c,h1.1,h2⟩
theorem RB.take_drop{w:World}{v:Value}{xs:List UInt8}{l h:Nat}(hn:h≤xs.length)(hR:Reads w 1 v (h-l) (((Lib.byteCells xs).drop (l*1)).take ((h-l)*1))):RB w v ((xs.drop l).take (h-l)):=by
  have a:((xs.drop l).take (h-l)).length=h-l:=by rw[List.length_take,List.length_drop];omega
  unfold RB
  rw[a]
  have b:Lib.byteCells ((xs.drop l).take (h-l))=((Lib.byteCells xs).drop (l*1)).take ((h-l)*1):=by
    simp[Lib.byteCells,List.map_take,List.map_drop]
  rw[b]
  exact hR
theorem RB.kept{w w' :World}{v:Value}{l:List UInt8}(h:RB w v l){row:Option Nat}(hg:w.grownBy w' row)(hv:v.ownBlock=none∨v.ownBlock≠row):RB w' v l:=by
  obtain⟨h1,ao,cap,rfl,h2,h3,h4,h5⟩:=h
  refine⟨h1,ao,cap,rfl,h2,h3,h4,fun a ha j u hu=> ?_⟩
  have hc:=h5 a ha j u hu
  subst ha
  have hlt:=World.block_lt_of_cell? w _ hc
  have hbl:(a.add j).block=a.block:=by unfold Addr.add;split <;> rfl
  have hne:(some a.block)≠row:=by
    rcases hv with hv | hv
    · cases hv
    · exact hv
  rw[hbl]at hlt
  rw[World.cell?_of_block (w:=w) (by rw[hbl];exact hg.block a.block hlt hne)]
  exact hc
theorem HE{t e:TypeId}(ht:P.underlying t=some (.slice e))(he:∀w' :World,(sizeOf e).run P w' = .ok 1 w'){w:World}{v:Value}{xs:List UInt8}(hr:RB w v xs)(lo hi:Option Value)(l h:Nat)(hlh:l≤h)(hn:h≤xs.length) 
    (hlo:lo=none∧l=0∨∃k,lo=some (.int k l)) (hhi:hi=none∧h=xs.length∨∃k,hi=some (.int k h)):
    ∃ao c,(Instr.sliceAt t v lo hi none).run P w = .ok (.slice ao (h-l) c) w∧RB w (.slice ao (h-l) c) ((xs.drop l).take (h-l)):=by
  obtain⟨ao,c,hrun,hR⟩:=Hz ht he hr lo hi l h hlh hn hlo hhi
  refine⟨ao,c,hrun,?_⟩
  have a:((xs.drop l).take (h-l)).length=h-l:=by rw[List.length_take,List.length_drop];omega
  unfold RB
  rw[a]
  have b:Lib.byteCells ((xs.drop l).take (h-l))=((Lib.byteCells xs).drop (l*1)).take ((h-l)*1):=by
    simp[Lib.byteCells,List.map_take,List.map_drop]
  rw[b]
  exact hR
theorem FS{ops:Array Oper}{rest:List Oper}{o:Oper}{a:Act}{w:World}{Q:Exit→Act→World→Prop}(hgd:o.guard=none)(t:TypeId)(x:Operand)(lo hi:Option Operand)(ho:o.op = .slice t x lo hi none) 
    {e:TypeId} (ht:P.underlying t=some (.slice e)) (he:∀w' :World,(sizeOf e).run P w' = .ok 1 w') (v:Value) (xs:List UInt8) (hx:a.eval x=v) (hr:RB w v xs) (l h:Nat) (hlh:l≤h) (hn:h≤xs.length)
    (hlo:lo.map a.eval=none∧l=0∨∃k,lo.map a.eval=some (.int k l)) (hhi:hi.map a.eval=none∧h=xs.length∨∃k,hi.map a.eval=some (.int k h))
    (hK:∀ao c,RB w (.slice ao (h-l) c) ((xs.drop l).take (h-l))→wpList P ops Q rest (a.put o.dst (.slice ao (h-l) c)) w):wpList P ops Q (o :: rest) a w:=
  wpList_plain hgd fun K hK' =>by
    obtain⟨ao,c,hrun,hR⟩:=HE ht he hr (lo.map a.eval) (hi.map a.eval) l h hlh hn hlo hhi
    unfold Oper.wp execOp
    simp only[ho,hx,Option.map_none,hrun,Sem.run_bind,Sem.run_pure,Result.andThen_ok]
    exact hK' _ _ (hK ao c hR)
theorem RB.open_{w:World}{v:Value}{l:List UInt8}(h:RB w v l)(hl:0<l.length):∃b off cap,v = .slice (some ⟨b,off,none⟩) l.length cap∧l.length≤cap∧cap≤9223372036854775807∧b<w.heap.size∧∀i,i<l.length→w.cell? ⟨b,off+i,none⟩=some (.int .u8 ((l.getD i 0).toNat:Int)):=by
  obtain⟨h1,ao,cap,rfl,h2,h3,h4,h5⟩:=h
  cases ao with
  | none=>have:=(h4 rfl).1;omega
  | some a=>
    obtain⟨b,off,sp⟩:=a
    have hc:∀i,i<l.length→w.cell? ((⟨b,off,sp⟩:Addr).add i)=some (.int .u8 ((l.getD i 0).toNat:Int)):=fun i hi=>h5 _ rfl i _ (by simp[Lib.byteCells,hi])
    have hsp:sp=none:=by
      have:=hc 0 hl
      simpa [Addr.add] using World.cell?_spot this
    subst hsp
    refine⟨b,off,cap,rfl,h2,by simpa [maxLen] using h3,World.block_lt_of_cell? w _ (hc 0 hl),fun i hi=> ?_⟩
    have:=hc i hi
    rwa [Addr.add_lit]at this
theorem Yk.reslice{K:Value→World→Prop}{ρ:Tmp→Value}{t e:TypeId}{x:Operand}{lo hi:Option Operand}{d:Option Tmp}{ty:TypeId}{pos:String}{af:Array Edge}{gd:Option (Nat × Bool)}{w:World} 
    (ht:P.underlying t=some (.slice e)) (he:∀w' :World,(sizeOf e).run P w' = .ok 1 w') {xs:List UInt8} (hr:RB w (Ag ρ x) xs) (l h:Nat) (hlh:l≤h) (hn:h≤xs.length)
    (hlo:lo.map (Ag ρ)=none∧l=0∨∃k,lo.map (Ag ρ)=some (.int k l)) (hhi:hi.map (Ag ρ)=none∧h=xs.length∨∃k,hi.map (Ag ρ)=some (.int k h))
    (hK:∀ao c,RB w (.slice ao (h-l) c) ((xs.drop l).take (h-l))→K (.slice ao (h-l) c) w):Yk P K ((execOp (Ag ρ) ⟨d, .slice t x lo hi none,ty,pos,af,gd⟩).run P w):=by
  obtain⟨ao,c,hrun,hR⟩:=HE ht he hr (lo.map (Ag ρ)) (hi.map (Ag ρ)) l h hlh hn hlo hhi
  refine Yk.value (v:= .slice ao (h-l) c) (w' :=w) ?_ (hK ao c hR)
  unfold execOp
  simp only[Option.map_none,hrun,Sem.run_bind,Sem.run_pure,Result.andThen_ok]
open Go.RowKit
abbrev Au:=Tmp→Value
def HF(ρ:Au)(d:Tmp)(v:Value):Au:=fun t=>cond (Nat.beq t d) v (ρ t)
def BC(ρ:Au)(d:Option Tmp)(v:Value):Au:=match d with
  | none=>ρ
  | some d=>HF ρ d v
structure Fits (n : Nat) (ρ : Au) (a : Act) : Prop where
  size:a.tmps.size=n
  defers:a.defers= []
  get:∀t,a.tmps.getD t undef=ρ t
theorem Fits.eval{n:Nat}{ρ:Au}{a:Act}(h:Fits n ρ a):a.eval=Ag ρ:=by
  funext x
  cases x with
  | tmp t=>exact h.get t
  | _=>rfl
theorem Fits.put{n:Nat}{ρ:Au}{a:Act}(h:Fits n ρ a)(d:Option Tmp)(hd:∀t,d=some t→t<n)(v:Value):Fits n (BC ρ d v) (a.put d v):=by
  cases d with
  | none=>exact h
  | some d=>
    have hdn:=hd d rfl
    refine⟨by simp[Act.put,h.size],h.defers,fun t=> ?_⟩
    have hg:=h.get t
    simp only[BC,HF,Act.put,Array.getD_eq_getD_getElem?,Array.getElem?_setIfInBounds,h.size]at hg ⊢
    by_cases htd:t=d
    · subst htd
      simp[hdn]
    · have hb:Nat.beq t d=false:=by
        cases hb:Nat.beq t d with
        | false=>rfl
        | true=>exact absurd (Nat.eq_of_beq_eq_true hb) htd
      rw[hb,if_neg (fun e=>htd e.symm)]
      exact hg

theorem Jq{T:Array Value}{d:Nat}{b:Bool}(h:T.getD d undef = .bool b):T[d]? =some (.bool b):=by
  rw[Array.getD_eq_getD_getElem?]at h
  cases hx:T[d]? with
  | none=>rw[hx]at h;cases h
  | some x=>rw[hx]at h;simp at h;rw[h]
abbrev Ce:=Exit→Au→World→Prop
def Cf(P:Program)(n:Nat)(c:Code)(Q:Ce)(ρ:Au)(w:World):Prop:=
  ∀a,Fits n ρ a→c.wp P (fun e a' w' =>∃ρ',Fits n ρ' a' ∧Q e ρ' w') a w
def Fs(K:Au→World→Prop)(Q:Ce):Ce
  | .normal,ρ,w=>K ρ w
  | e,ρ,w=>Q e ρ w
def DR(id:Nat)(Q:Ce):Ce
  | .exit id',ρ,w=>if id' =id then Q .normal ρ w else Q (.exit id') ρ w
  | e,ρ,w=>Q e ρ w
section
variable {P : Program} {n : Nat} {Q : Ce} {ρ : Au} {w : World}
theorem Aq(h:Q .normal ρ w):Cf P n .skip Q ρ w:=fun _ ha=>wp_skip ⟨ρ,ha,h⟩
theorem AP{id:Nat}(h:Q (.exit id) ρ w):Cf P n (.exit id) Q ρ w:=fun _ ha=>wp_exit ⟨ρ,ha,h⟩
theorem Am(h:Q .ret ρ w):Cf P n .ret Q ρ w:=fun _ ha=>wp_ret ⟨ρ,ha,h⟩
theorem Qh{x y:Code}(h:Cf P n x (Fs (Cf P n y Q) Q) ρ w):Cf P n (.seq x y) Q ρ w:=fun a ha=>
  wp_seq (wp_mono (h a ha) fun e a' w' ⟨ρ',hf,hQ⟩=>by
    cases e with
    | normal=>exact hQ a' hf
    | _=>exact⟨ρ',hf,hQ⟩)
theorem sk{x y:Code}(h:∀K:Au→World→Prop,(∀ρ w,Cf P n y Q ρ w→K ρ w)→Cf P n x (Fs K Q) ρ w):Cf P n (.seq x y) Q ρ w:=Qh (h _ fun _ _ h=>h)
theorem wpF_true{c:Operand}{x y:Code}(hc:Ag ρ c = .bool true)(h:Cf P n x Q ρ w):Cf P n (.cond c x y) Q ρ w:=fun a ha=>wp_cond_true (by rw[ha.eval];exact hc) (h a ha)
theorem AH{c:Operand}{x y:Code}(hc:Ag ρ c = .bool false)(h:Cf P n y Q ρ w):Cf P n (.cond c x y) Q ρ w:=fun a ha=>wp_cond_false (by rw[ha.eval];exact hc) (h a ha)
theorem AL{c:Operand}{x y:Code}(p:Prop)[Decidable p](hc:Ag ρ c = .bool (decide p))(h1:p→Cf P n x Q ρ w)(h2:¬p→Cf P n y Q ρ w):Cf P n (.cond c x y) Q ρ w:=by
  by_cases hp:p
  · exact wpF_true (by rw[hc,decide_eq_true hp]) (h1 hp)
  · exact AH (by rw[hc,decide_eq_false hp]) (h2 hp)
theorem AW{c:Operand}{x y:Code}(b:Bool)(hc:Ag ρ c = .bool b)(h1:b=true→Cf P n x Q ρ w)(h2:b=false→Cf P n y Q ρ w):Cf P n (.cond c x y) Q ρ w:=by
  cases b
  · exact AH hc (h2 rfl)
  · exact wpF_true hc (h1 rfl)
theorem Av{id:Nat}{c:Code}(h:Cf P n c (DR id Q) ρ w):Cf P n (.block id c) Q ρ w:=fun a ha=>
  wp_block (wp_mono (h a ha) fun e a' w' ⟨ρ',hf,hQ⟩=>by
    cases e with
    | exit id' =>
      simp only[DR]at hQ
      simp only[Exit.inBlock]
      split at hQ
      · rw[if_pos ‹_›];exact⟨ρ',hf,hQ⟩
      · rw[if_neg ‹_›];exact⟨ρ',hf,hQ⟩
    | _=>exact⟨ρ',hf,hQ⟩)
theorem A4{c:Code}(I:Au→World→Prop)(μ:Au→World→Nat)(h0:I ρ w) 
    (round:∀ρ w,I ρ w→Cf P n c (Fs (fun ρ' w' =>I ρ' w' ∧μ ρ' w' <μ ρ w) Q) ρ w):Cf P n (.loop c) Q ρ w:=by
  intro a ha
  refine wp_loop (fun a w=>∃ρ,Fits n ρ a∧I ρ w) (fun a w=>μ (fun t=>a.tmps.getD t undef) w) ⟨ρ,ha,h0⟩ ?_
  rintro a w ⟨ρ,hf,hI⟩
  have he:(fun t=>a.tmps.getD t undef)=ρ:=funext hf.get
  refine wp_mono (round ρ w hI a hf) fun e a' w' ⟨ρ',hf',hQ⟩=> ?_
  cases e with
  | normal=>exact⟨⟨ρ',hf',hQ.1⟩,by rw[he,show(fun t=>a'.tmps.getD t undef)=ρ' from funext hf'.get];exact hQ.2⟩
  | _=>exact⟨ρ',hf',hQ⟩

/-! ### A region in the order of the text, operation by operation -/
def Cn(P:Program)(ops:Array Oper)(n:Nat)(Q:Ce)(l:List Oper)(ρ:Au)(w:World):Prop:=
  ∀a,Fits n ρ a→wpList P ops (fun e a' w' =>∃ρ',Fits n ρ' a' ∧Q e ρ' w') l a w
def R5(l:List Oper)(n:Nat):Bool:=l.all fun o=>match o.dst with | some d=>Nat.blt d n | none=>true
theorem wt{id:Nat}{l:List Oper}(h:Cn P l.toArray n Q l ρ w):Cf P n (.region id l.toArray false) Q ρ w:=fun a ha=>wp_region_lit (h a ha)
theorem oZ{ops:Array Oper}(h:Q .normal ρ w):Cn P ops n Q [] ρ w:=fun _ ha=>⟨ρ,ha,h⟩
theorem oS{ops:Array Oper}{rest:List Oper}{dst:Option Tmp}{op:Op}{ty:TypeId}{pos:String}{af:Array Edge}(hd:(match dst with | some d=>Nat.blt d n | none=>true)=true) 
    (h:Yk P (fun v w' =>Cn P ops n Q rest (BC ρ dst v) w') ((execOp (Ag ρ) ⟨dst,op,ty,pos,af,none⟩).run P w)):Cn P ops n Q (⟨dst,op,ty,pos,af,none⟩ :: rest) ρ w:=by
  intro a ha
  have hdn:∀t,dst=some t→t<n:=fun t ht=>by subst ht;exact Nat.le_of_ble_eq_true hd
  refine wpList_plain rfl fun K hK=> ?_
  unfold Oper.wp Oper.upon
  rw[ha.eval]
  have hput:=fun v=>ha.put dst hdn v
  revert h
  generalize (execOp (Ag ρ) ⟨dst,op,ty,pos,af,none⟩).run P w=r
  intro h
  match r,h with
  | .ok (.value v) w',h=>exact hK _ _ (h _ (hput v))
  | .ok .skip w',h=>exact hK _ _ (h _ (hput undef))
  | .ok (.enter f args) w',h=>
    refine Calls.mono h ?_
    rintro e w'' ⟨v,rfl,hk⟩
    exact hK _ _ (hk _ (hput v))
theorem oY{ops:Array Oper}{rest:List Oper}{dst:Option Tmp}{op:Op}{ty:TypeId}{pos:String}{af:Array Edge}{g:Nat}{want:Bool}{d:Tmp}(hd:(match dst with | some d=>Nat.blt d n | none=>true)=true)(hg:(ops[g]?).bind (·.dst)=some d)(hv:ρ d = .bool want) 
    (h:Yk P (fun v w' =>Cn P ops n Q rest (BC ρ dst v) w') ((execOp (Ag ρ) ⟨dst,op,ty,pos,af,some (g,want)⟩).run P w)):Cn P ops n Q (⟨dst,op,ty,pos,af,some (g,want)⟩ :: rest) ρ w:=by
  intro a ha
  have hdn:∀t,dst=some t→t<n:=fun t ht=>by subst ht;exact Nat.le_of_ble_eq_true hd
  have hw:Region.wanted ⟨dst,op,ty,pos,af,some (g,want)⟩ (yielded ops a.tmps)=true:=by
    have:=Jq ((ha.get d).trans hv)
    simp only[Region.wanted,yielded,hg]
    simp[this]
  refine wpList_step fun K hK=> ?_
  rw[if_pos hw]
  unfold Oper.wp Oper.upon
  rw[ha.eval]
  have hput:=fun v=>ha.put dst hdn v
  revert h
  generalize (execOp (Ag ρ) ⟨dst,op,ty,pos,af,some (g,want)⟩).run P w=r
  intro h
  match r,h with
  | .ok (.value v) w',h=>exact hK _ _ (h _ (hput v))
  | .ok .skip w',h=>exact hK _ _ (h _ (hput undef))
  | .ok (.enter f args) w',h=>
    refine Calls.mono h ?_
    rintro e w'' ⟨v,rfl,hk⟩
    exact hK _ _ (hk _ (hput v))
theorem oN{ops:Array Oper}{rest:List Oper}{o:Oper}{g:Nat}{want b:Bool}{d:Tmp}(hgd:o.guard=some (g,want))(hd:(match o.dst with | some d=>Nat.blt d n | none=>true)=true)(hg:(ops[g]?).bind (·.dst)=some d)(hv:ρ d = .bool b)(hb:(b==want)=false) 
    (h:Cn P ops n Q rest (BC ρ o.dst undef) w):Cn P ops n Q (o :: rest) ρ w:=by
  intro a ha
  have hdn:∀t,o.dst=some t→t<n:=fun t ht=>by rw[ht]at hd;exact Nat.le_of_ble_eq_true hd
  have hw:Region.wanted o (yielded ops a.tmps)=false:=by
    have:=Jq ((ha.get d).trans hv)
    simp only[Region.wanted,hgd,yielded,hg]
    simpa [this] using hb
  refine wpList_step fun K hK=> ?_
  rw[if_neg (by rw[hw];simp)]
  exact hK _ _ (h _ (ha.put o.dst hdn undef))

/-! ### A region that draws its order, by facts -/
def Ft(l:List Oper)(Φ:Nat→Bv)(ρ:Au)(n:Nat)(t:Tmp)(x:Value)(w:World):Prop:=
  match CN l t n with
  | none=>x=ρ t
  | some k=>Φ k x w
def DB(P:Program)(l:List Oper)(C:Nat→World→Prop)(R:Nat→World→World→Prop)(Φ:Nat→Bv)(ρ:Au)(n:Nat)(o:Oper):Prop:=
  ∀(σ:Au) (w:World),C n w→(∀t∈o.looksAt l.toArray,Ft l Φ ρ n t (σ t) w) →
    if Cl l o σ=true then Yk P (fun v w' =>R n w w' ∧Φ n v w') ((execOp (Ag σ) o).run P w)else Φ n undef w
def StepsF(P:Program)(l:List Oper)(C:Nat→World→Prop)(R:Nat→World→World→Prop)(Φ:Nat→Bv)(ρ:Au):Nat→List Oper→Prop
  | _,[]=>True
  | n,o :: r=>DB P l C R Φ ρ n o∧StepsF P l C R Φ ρ (n+1) r
theorem StepsF.ok{l:List Oper}{C:Nat→World→Prop}{R:Nat→World→World→Prop}{Φ:Nat→Bv}{T:Array Value}(hT:∀t,T.getD t undef=ρ t):∀(r:List Oper) (k:Nat),StepsF P l C R Φ ρ k r→StepsOk P l C R Φ T k r
  | [],_,_=>trivial
  | o :: r,k,h=>⟨fun σ w hC hl=>h.1 σ w hC (fun t ht=>by
      have:=hl t ht
      unfold E6 at this
      unfold Ft
      split
      · rename_i e;rw[e]at this;rw[←hT];exact this
      · rename_i e;rw[e]at this;exact this),StepsF.ok hT r (k+1) h.2⟩
theorem LN{T:Array Value}(hT:∀t,T.getD t undef=ρ t)(ds:List Tmp)(hds:∀d∈ds,d<T.size)(u:Au):∀t,(De T ds u).getD t undef=if t∈ds then u t else ρ t:=fun t=>by
  by_cases ht:t<T.size
  · rw[GI u t ds T ht,←hT]
  · have h1:(De T ds u).getD t undef=undef:=by
      rw[Array.getD_eq_getD_getElem?,Array.getElem?_eq_none (by rw[Ea];omega),Option.getD_none]
    have h2:T.getD t undef=undef:=by rw[Array.getD_eq_getD_getElem?,Array.getElem?_eq_none (by omega),Option.getD_none]
    rw[h1,if_neg (fun h=>ht (hds t h)),←hT,h2]
theorem Nm{l:List Oper}{n:Nat}(hg:CQ l n=true)(ds:List Tmp)(hds:slotsW l=ds):∀d∈ds,d<n:=by
  intro d hd
  rw[←hds]at hd
  unfold slotsW at hd
  rw[List.mem_eraseDups,List.mem_filterMap]at hd
  obtain⟨o,ho,hod⟩:=hd
  obtain⟨j,hj⟩:=List.getElem?_of_mem ho
  exact(E0 hg).room j o d hj hod
structure EndF (ds : List Tmp) (ρ ρ' : Au) : Prop where
  old:∀t,ds.contains t=false→ρ' t=ρ t
theorem EndF.at_{ds:List Tmp}{ρ ρ' :Au}(h:EndF ds ρ ρ'){t:Tmp}{v:Value}(hv:ρ t=v)(ht:ds.contains t=false):ρ' t=v:=(h.old t ht).trans hv
theorem Bw{l:List Oper}(Φs:List Bv){id:Nat}(hm:P.follows .mixedOrders=true)(ds:List Tmp)(hg:CQ l n=true)(hds:slotsW l=ds)(hst:AllStab Ext Φs)(hs:StepsF P l (fun _=>Ext w) (fun _=>Ext) (Bo Φs) ρ 0 l) 
    (hQ:∀(ρ' :Au) w',Ext w w' →EndF ds ρ ρ' →BY l (fun _=> []) (Bo Φs) ρ' w' ds→Q .normal ρ' w'):Cf P n (.region id l.toArray true) Q ρ w:=by
  intro a ha
  obtain⟨T,df⟩:=a
  have hz:T.size=n:=ha.size
  subst hz
  refine Kg Φs hm T df hg ds hds hst (StepsF.ok ha.get l 0 hs) fun u w' hE hf=> ?_
  have hw:=LN ha.get ds (Nm hg ds hds) u
  refine⟨fun t=>if t∈ds then u t else ρ t,⟨by rw[Ea],ha.defers,hw⟩,hQ _ w' hE ⟨fun t ht=>if_neg (by simpa using ht)⟩ ?_⟩
  have key:∀es:List Tmp,(∀d∈es,d∈ds)→BY l (fun _=> []) (Bo Φs) u w' es→BY l (fun _=> []) (Bo Φs) (fun t=>if t∈ds then u t else ρ t) w' es:=by
    intro es
    induction es with
    | nil=>exact fun _ _=>trivial
    | cons d es ih=>
      intro hm h
      refine⟨?_,ih (fun x hx=>hm x (by simp[hx])) h.2⟩
      have:=h.1
      simp only[if_pos (hm d (by simp))]
      exact this
  exact key ds (fun _ h=>h) hf
variable {l : List Oper} {Φ : Nat → Bv}
theorem Aa{C:Nat→World→Prop}{R:Nat→World→World→Prop}{k:Nat}{o:Oper}(hg:o.guard=none) 
    (h:∀σ w,C k w→(∀t∈o.looksAt l.toArray,Ft l Φ ρ k t (σ t) w)→Yk P (fun v w' =>R k w w' ∧Φ k v w') ((execOp (Ag σ) o).run P w)):DB P l C R Φ ρ k o:=by
  intro σ w hC hl
  have:Cl l o σ=true:=by unfold Cl;rw[hg]
  rw[if_pos this]
  exact h σ w hC hl
theorem Bi{C:Nat→World→Prop}{R:Nat→World→World→Prop}{k:Nat}{o:Oper}(g:Nat)(want:Bool)(d:Tmp)(hg:o.guard=some (g,want))(hd:(l[g]?).bind (·.dst)=some d) 
    (hv:∀x w,Ft l Φ ρ k d x w→x = .bool want)
    (h:∀σ w,C k w→(∀t∈o.looksAt l.toArray,Ft l Φ ρ k t (σ t) w)→Yk P (fun v w' =>R k w w' ∧Φ k v w') ((execOp (Ag σ) o).run P w)):DB P l C R Φ ρ k o:=by
  intro σ w hC hl
  have hin:d∈o.looksAt l.toArray:=by
    unfold Oper.looksAt
    refine List.mem_append_right _ ?_
    rw[hg]
    simp[hd]
  have:Cl l o σ=true:=by
    unfold Cl
    rw[hg]
    simp only[hd,hv _ _ (hl d hin)]
    simp
  rw[if_pos this]
  exact h σ w hC hl
theorem P2{C:Nat→World→Prop}{R:Nat→World→World→Prop}{k:Nat}{o:Oper}(g:Nat)(want:Bool)(d:Tmp)(hg:o.guard=some (g,want))(hd:(l[g]?).bind (·.dst)=some d) 
    (hv:∀x w,Ft l Φ ρ k d x w→x ≠ .bool want) (hu:∀w,Φ k undef w):DB P l C R Φ ρ k o:=by
  intro σ w hC hl
  have hin:d∈o.looksAt l.toArray:=by
    unfold Oper.looksAt
    refine List.mem_append_right _ ?_
    rw[hg]
    simp[hd]
  have:Cl l o σ=false:=by
    unfold Cl
    rw[hg]
    simp only[hd]
    have h1:=hv _ _ (hl d hin)
    cases hx:σ d <;> simp
    rename_i b
    intro hb
    exact h1 (by rw[hx,hb])
  rw[if_neg (by rw[this];simp)]
  exact hu w

/-! ### A function is entered; it returns -/
def postF(P:Program)(fn:Func)(R:Ending→World→Prop):Ce
  | .normal,ρ,w | .ret,ρ,w=>∀tmps:Array Value,(∀t,tmps.getD t undef=ρ t)→∃v,(results fn tmps).run P w = .ok v w∧R (.returned v) w
  | _,_,_=>False
structure Ky (args : List Value) (ρ : Au) : Prop where
  get:∀t,ρ t=args.getD t undef
theorem As{f:FuncId}{fn:Func}{c:Code}{args:List Value}{R:Ending→World→Prop}(hf:P.funcs[f]? =some fn)(hb:fn.body=some c)(m:Nat)(hm:fn.ntmps=m)(hn:args.length≤m) 
    (h:∀ρ,Ky args ρ→Cf P m c (postF P fn R) ρ w):Calls P f args.toArray w R:=by
  subst hm
  refine calls_of_wp hf hb ?_
  have hget:∀t,(args.toArray++Array.replicate (fn.ntmps-args.toArray.size) undef).getD t undef=args.getD t undef:=fun t=>by
    simp only[Array.getD_eq_getD_getElem?,List.getD_eq_getElem?_getD,Array.getElem?_append,List.size_toArray,List.getElem?_toArray]
    by_cases ht:t<args.length
    · rw[if_pos ht]
    · rw[if_neg ht,List.getElem?_eq_none (by omega),Array.getElem?_replicate]
      split <;> rfl
  refine wp_mono (h (fun t=>args.getD t undef) ⟨fun _=>rfl⟩ _ ⟨?_,rfl,hget⟩) ?_
  · simp
    omega
  · rintro e a' w' ⟨ρ',hf',hQ⟩
    have fin:(∀tmps:Array Value,(∀t,tmps.getD t undef=ρ' t)→∃v,(results fn tmps).run P w' = .ok v w' ∧R (.returned v) w')→a'.defers= []∧∃v,(results fn a'.tmps).run P w' = .ok v w' ∧R (.returned v) w' :=
      fun h=>⟨hf'.defers,h a'.tmps hf'.get⟩
    cases e with
    | normal=>exact fin hQ
    | ret=>exact fin hQ
    | exit _=>exact hQ.elim
    | goto _=>exact hQ.elim
    | panic _=>exact hQ.elim
    | outgrown=>exact hQ.elim
def ResF(P:Program)(ρ:Au)(w:World):ResultVar→Value→Prop
  | .tmp t,v=>ρ t=v
  | .cell p ty,v=>∃a,ρ p = .pointer (some a)∧(loadVar ty a).run P w = .ok v w
def Ev(P:Program)(ρ:Au)(w:World):List ResultVar→List Value→Prop
  | [],[]=>True
  | r :: rs,v :: vs=>ResF P ρ w r v∧Ev P ρ w rs vs
  | _,_=>False
def resOf(tmps:Array Value):ResultVar→Sem Value
  | .tmp t=>pure (tmps.getD t undef)
  | .cell a t=>do loadVar t (←asAddr (tmps.getD a undef))
theorem GL{ρ:Au}{w:World}{tmps:Array Value}(ht:∀t,tmps.getD t undef=ρ t):∀(rs:List ResultVar) (vs:List Value),Ev P ρ w rs vs→(rs.mapM (resOf tmps)).run P w=Result.ok vs w
  | [],[],_=>by simp[Sem.run_pure]
  | [],_ :: _,h=>h.elim
  | _ :: _,[],h=>h.elim
  | r :: rs,v :: vs,h=>by
    have ih:=GL ht rs vs h.2
    have h1:(resOf tmps r).run P w = .ok v w:=by
      have h1:=h.1
      cases r with
      | tmp t=>
        simp only[ResF]at h1
        simp only[resOf,ht,h1,Sem.run_pure]
      | cell p ty=>
        obtain⟨a,ha,hl⟩:=h1
        simp only[resOf,ht,ha,asAddr,Sem.run_bind,Sem.run_pure,Result.andThen_ok,hl]
    rw[List.mapM_cons,Sem.run_bind,h1]
    simp only[Result.andThen_ok,Sem.run_bind,ih,Sem.run_pure]
def Fa:List Value→Value
  | [v]=>v
  | vs=> .tuple vs.toArray
theorem Eb{fn:Func}{rs:List ResultVar}(hrs:fn.results=rs.toArray){tmps:Array Value}(ht:∀t,tmps.getD t undef=ρ t){vs:List Value}(h:Ev P ρ w rs vs):
    (results fn tmps).run P w = .ok (Fa vs) w:=by
  have h1:=GL ht rs vs h
  have he:results fn tmps=(do let vs ←fn.results.mapM (resOf tmps);pure (if h:vs.size=1 then vs[0]else .tuple vs)):=by
    unfold results
    congr 1
  rw[he,hrs,List.mapM_toArray,Sem.run_bind]
  have hm:((List.toArray <$> rs.mapM (resOf tmps)):Sem (Array Value)).run P w = .ok vs.toArray w:=by
    show((rs.mapM (resOf tmps)).bind (fun x=>Sem.pure x.toArray)).run P w=_
    rw[show(rs.mapM (resOf tmps)).bind (fun x=>Sem.pure x.toArray)=(do let x ←rs.mapM (resOf tmps);pure x.toArray)from rfl,Sem.run_bind,h1]
    rfl
  rw[hm]
  simp only[Result.andThen_ok,Sem.run_pure]
  match vs with
  | []=>rfl
  | [v]=>rfl
  | _ :: _ :: _=>simp[Fa]
theorem Aj{fn:Func}{R:Ending→World→Prop}(rs:List ResultVar)(hrs:fn.results=rs.toArray)(vs:List Value)(v:Value)(hv:Fa vs=v)(h:Ev P ρ w rs vs)(hR:R (.returned v) w):postF P fn R .ret ρ w:=
  fun _ ht=>⟨_,Eb hrs ht h,by rw[hv];exact hR⟩
theorem GM{fn:Func}{R:Ending→World→Prop}(rs:List ResultVar)(hrs:fn.results=rs.toArray)(vs:List Value)(v:Value)(hv:Fa vs=v)(h:Ev P ρ w rs vs)(hR:R (.returned v) w):postF P fn R .normal ρ w:=
  fun _ ht=>⟨_,Eb hrs ht h,by rw[hv];exact hR⟩
theorem ResF.row{p:Tmp}{ty:TypeId}{g:Nat}{t:TypeId}{cs:Array Value}{fr:Nat × Nat}{d:TypeDesc}(hp:ρ p = .pointer (some ⟨g,0,none⟩))(hg:w.heap[g]? =some (.cells cs t fr)) 
    (hu:P.underlying ty=some d) (hd:(match d with | .struct _ | .array _ _=>true | _=>false)=true) (hi:(P.info? ty).map (·.size)=some cs.size):ResF P ρ w (.cell p ty) (.agg cs):=
  ⟨_,hp,run_loadVar_row w g t ty cs fr d hg hu hd hi⟩
end
open Go.RowKit
/-! ### The last operation in the frame as it then is -/
section
variable {P : Program} {l : List Oper} {kill : Nat → List Nat} {C : Nat → World → Prop} {R : Nat → World → World → Prop} {Φ : Nat → Bv} {a0 : Act}
def StepsFL(P:Program)(l:List Oper)(L:Nat)(C:Nat→World→Prop)(R:Nat→World→World→Prop)(Φ:Nat→Bv)(ρ:Au):Nat→List Oper→Prop
  | _,[]=>True
  | n,o :: r=>(bif Nat.beq n L then True else DB P l C R Φ ρ n o)∧StepsFL P l L C R Φ ρ (n+1) r
theorem A5{L n:Nat}{ρ:Au}{o:Oper}(h:DB P l C R Φ ρ n o):bif Nat.beq n L then True else DB P l C R Φ ρ n o:=by
  cases Nat.beq n L
  · exact h
  · trivial
theorem StepsFL.get{L:Nat}{ρ:Au}:∀(r:List Oper) (n:Nat),StepsFL P l L C R Φ ρ n r→∀k o,r[k]? =some o→n+k≠L→DB P l C R Φ ρ (n+k) o
  | [],_,_,k,o,h,_=>by simp at h
  | o' :: r,n,hs,0,o,h,hne=>by
    simp only[List.getElem?_cons_zero,Option.some.injEq]at h
    subst h
    have h1:=hs.1
    rw[show Nat.beq n L=false by rw[←Bool.not_eq_true,Nat.beq_eq];exact hne]at h1
    exact h1
  | o' :: r,n,hs,k+1,o,h,hne=>by
    rw[List.getElem?_cons_succ]at h
    have:=StepsFL.get r (n+1) hs.2 k o h (by omega)
    rwa [show n+1+k=n+(k+1) by omega]at this
end
open Go.RowKit
variable {P : Program}
abbrev NI(n:Nat):Value:= .int .i64 (n:Int)
abbrev B8(x:UInt8):Value:= .int .u8 (x.toNat:Int)

theorem Qi(n:Nat):IntKind.u8.wrap (n:Int)=((n%256:Nat):Int):=by
  simp[IntKind.wrap,IntKind.bits,IntKind.signed]
theorem Qj{op:BinOp}{t ty2:TypeId}{x y:Operand}{d:Option Tmp}{ty:TypeId}{pos:String}{af:Array Edge}{gd:Option (Nat × Bool)}{ρ:Operand→Value}{xv yv v:Value}{w:World} 
    (hx:ρ x=xv) (hy:ρ y=yv) (hne:(op matches .eql | .neq)=false) (hr:Go.binOp op t xv yv=pure v):(execOp ρ ⟨d, .binOp op t x y ty2,ty,pos,af,gd⟩).run P w = .ok (.value v) w:=by
  have hg:eqGuard op t x y xv yv=pure ():=by
    unfold eqGuard
    cases op <;> first | rfl | cases hne
  unfold execOp
  simp only[hx,hy,hg,hr,Sem.run_bind,Sem.run_pure,Result.andThen_ok]
theorem Yk.bin{K:Value→World→Prop}{op:BinOp}{t ty2:TypeId}{x y:Operand}{d:Option Tmp}{ty:TypeId}{pos:String}{af:Array Edge}{gd:Option (Nat × Bool)}{ρ:Tmp→Value}{xv yv v:Value}{w:World} 
    (hx:Ag ρ x=xv) (hy:Ag ρ y=yv) (hne:(op matches .eql | .neq)=false) (hr:Go.binOp op t xv yv=pure v) (hk:K v w):Yk P K ((execOp (Ag ρ) ⟨d, .binOp op t x y ty2,ty,pos,af,gd⟩).run P w):=
  Yk.value (Qj hx hy hne hr) hk
theorem MA{t e:TypeId}{n:Nat}(ht:P.underlying t=some (.array n e))(he:∀w' :World,(sizeOf e).run P w' = .ok 1 w'){x y:Operand}{d:Option Tmp}{ty:TypeId}{pos:String}{af:Array Edge}{gd:Option (Nat × Bool)}{ρ:Operand→Value}{w:World}{b o i:Nat}{k:IntKind} 
    (hx:ρ x = .pointer (some ⟨b,o,none⟩)) (hy:ρ y = .int k (i:Int)) (hi:i<n):(execOp ρ ⟨d, .indexAddr t x y,ty,pos,af,gd⟩).run P w = .ok (.value (.pointer (some ⟨b,o+i,none⟩))) w:=by
  have hE:P.elem t=e:=by simp[Program.elem,ht]
  have hN:P.arrayLen t=n:=by simp[Program.arrayLen,ht]
  have hr:=run_indexAt_array (P:=P) w t ⟨b,o,none⟩ k (i:Int) (by rw[hE,hN];exact ht)
  rw[if_pos (by rw[hN];omega),hE,he]at hr
  unfold execOp
  simp only[hx,hy,Sem.run_bind,hr,Result.andThen_ok,Sem.run_pure]
  simp[Addr.add_lit]
theorem Yk.atArr{K:Value→World→Prop}{t e:TypeId}{n:Nat}(ht:P.underlying t=some (.array n e))(he:∀w' :World,(sizeOf e).run P w' = .ok 1 w'){x y:Operand}{d:Option Tmp}{ty:TypeId}{pos:String}{af:Array Edge}{gd:Option (Nat × Bool)}{ρ:Tmp→Value}{w:World}{b o i:Nat}{k:IntKind} 
    (hx:Ag ρ x = .pointer (some ⟨b,o,none⟩)) (hy:Ag ρ y = .int k (i:Int)) (hi:i<n) (hk:K (.pointer (some ⟨b,o+i,none⟩)) w):Yk P K ((execOp (Ag ρ) ⟨d, .indexAddr t x y,ty,pos,af,gd⟩).run P w):=
  Yk.value (MA ht he hx hy hi) hk
theorem Yk.atSl{K:Value→World→Prop}{t e:TypeId}(ht:P.underlying t=some (.slice e))(he:∀w' :World,(sizeOf e).run P w' = .ok 1 w'){x y:Operand}{d:Option Tmp}{ty:TypeId}{pos:String}{af:Array Edge}{gd:Option (Nat × Bool)}{ρ:Tmp→Value}{w:World}{b o i n c:Nat}{k:IntKind} 
    (hx:Ag ρ x = .slice (some ⟨b,o,none⟩) n c) (hy:Ag ρ y = .int k (i:Int)) (hi:i<n) (hk:K (.pointer (some ⟨b,o+i,none⟩)) w):Yk P K ((execOp (Ag ρ) ⟨d, .indexAddr t x y,ty,pos,af,gd⟩).run P w):=by
  refine Yk.value (v:= .pointer (some ⟨b,o+i,none⟩)) (w' :=w) ?_ hk
  have hE:P.elem t=e:=by simp[Program.elem,ht]
  have hr:=run_indexAt_slice (P:=P) w t ⟨b,o,none⟩ n c k (i:Int) (by rw[hE];exact ht)
  rw[if_pos (by omega),hE,he]at hr
  unfold execOp
  simp only[hx,hy,Sem.run_bind,hr,Result.andThen_ok,Sem.run_pure]
  simp[Addr.add_lit]
theorem Nn{ty:TypeId}{desc:TypeDesc}(hu:P.underlying ty=some desc)(hd:(match desc with | .struct _ | .array _ _=>false | _=>true)=true){x:Operand}{d:Option Tmp}{tt:TypeId}{pos:String}{af:Array Edge}{gd:Option (Nat × Bool)}{ρ:Operand→Value}{w:World}{a:Addr}{v:Value} 
    (hx:ρ x = .pointer (some a)) (hc:w.cell? a=some v):(execOp ρ ⟨d, .load ty x,tt,pos,af,gd⟩).run P w = .ok (.value v) w:=by
  have hl:(Instr.loadAt ty (.pointer (some a))).run P w = .ok v w:=by
    have hagg:(isAgg ty).run P w = .ok false w:=by
      unfold isAgg
      rw[Sem.run_bind,run_underlying hu w]
      cases desc <;> simp_all
    simp[Instr.loadAt,Instr.sureAddr,loadVar,hagg,hc]
  unfold execOp
  simp only[hx,Sem.run_bind,hl,Result.andThen_ok,Sem.run_pure]
theorem Yk.cell1{K:Value→World→Prop}{ty:TypeId}{desc:TypeDesc}(hu:P.underlying ty=some desc)(hd:(match desc with | .struct _ | .array _ _=>false | _=>true)=true){x:Operand}{d:Option Tmp}{tt:TypeId}{pos:String}{af:Array Edge}{gd:Option (Nat × Bool)}{ρ:Tmp→Value}{w:World}{a:Addr}{v:Value} 
    (hx:Ag ρ x = .pointer (some a)) (hc:w.cell? a=some v) (hk:K v w):Yk P K ((execOp (Ag ρ) ⟨d, .load ty x,tt,pos,af,gd⟩).run P w):=
  Yk.value (Nn hu hd hx hc) hk

open Go.RowKit
section
variable {P : Program} {K : Value → World → Prop} {ρ : Au} {w : World} {d : Option Tmp} {ty : TypeId} {pos : String} {af : Array Edge} {gd : Option (Nat × Bool)}
theorem Yk.move{x:Operand}{v:Value}(hx:Ag ρ x=v)(hk:K v w):Yk P K ((execOp (Ag ρ) ⟨d, .move x,ty,pos,af,gd⟩).run P w):=by
  subst hx;exact hk
theorem Yk.assign{x:Operand}{v:Value}(hx:Ag ρ x=v)(hk:K v w):Yk P K ((execOp (Ag ρ) ⟨d, .assign x,ty,pos,af,gd⟩).run P w):=by
  subst hx;exact hk
theorem Yk.pickT{c x y:Operand}{v:Value}(hc:Ag ρ c = .bool true)(hx:Ag ρ x=v)(hk:K v w):Yk P K ((execOp (Ag ρ) ⟨d, .pick c x y,ty,pos,af,gd⟩).run P w):=by
  subst hx
  unfold execOp
  simp only[hc,asBool,Sem.run_bind,Sem.run_pure,Result.andThen_ok,if_true]
  exact hk
theorem Yk.pickF{c x y:Operand}{v:Value}(hc:Ag ρ c = .bool false)(hx:Ag ρ y=v)(hk:K v w):Yk P K ((execOp (Ag ρ) ⟨d, .pick c x y,ty,pos,af,gd⟩).run P w):=by
  subst hx
  unfold execOp
  simp only[hc,asBool,Sem.run_bind,Sem.run_pure,Result.andThen_ok,Bool.false_eq_true,if_false]
  exact hk
theorem Yk.nilCheck{x:Operand}{a:Addr}(hx:Ag ρ x = .pointer (some a))(hk:K (.pointer (some a)) w):Yk P K ((execOp (Ag ρ) ⟨d, .nilCheck x,ty,pos,af,gd⟩).run P w):=by
  unfold execOp
  simp only[hx]
  exact hk
def Bm(P:Program)(s:TypeId)(f off:Nat):Prop:=∀(b o:Nat) (w:World),(Instr.fieldAt s (.pointer (some ⟨b,o,none⟩)) f).run P w = .ok (.pointer (some ⟨b,o+off,none⟩)) w
theorem Yk.fieldAt{s:TypeId}{f off b o:Nat}(hf:Bm P s f off){x:Operand}(hx:Ag ρ x = .pointer (some ⟨b,o,none⟩))(hk:K (.pointer (some ⟨b,o+off,none⟩)) w):Yk P K ((execOp (Ag ρ) ⟨d, .fieldAddr s x f,ty,pos,af,gd⟩).run P w):=by
  unfold execOp
  simp only[hx,Sem.run_bind,hf b o w,Result.andThen_ok,Sem.run_pure]
  exact hk
theorem Yk.alloc{e:TypeId}{cs:Array Value}(hz:∀(σ:Operand→Value) (w:World),(execOp σ ⟨d, .alloc e,ty,pos,af,gd⟩).run P w = .ok (.value (.pointer (some ⟨w.heap.size,0,none⟩))) (w.alloc (.cells cs e))) 
    (hk:∀n w',w.heap.size=n→w'.heap[n]? =some (.cells cs e (0,0))→Ext w w' →w'.heap.size=n+1→K (.pointer (some ⟨n,0,none⟩)) w'):Yk P K ((execOp (Ag ρ) ⟨d, .alloc e,ty,pos,af,gd⟩).run P w):=by
  rw[hz]
  exact hk _ _ rfl (heap_alloc_new w _) ((Below.refl _ _).alloc (Nat.le_refl _) _) (by simp)
theorem Yk.box{e:TypeId}{x:Operand}{cs:Array Value}(hx:Ag ρ x = .agg cs) 
    (hk:∀n w',w.heap.size=n→w'.heap[n]? =some (.cells cs e (0,0))→Ext w w' →w'.heap.size=n+1→K (.pointer (some ⟨n,0,none⟩)) w'):Yk P K ((execOp (Ag ρ) ⟨d, .box e x,ty,pos,af,gd⟩).run P w):=by
  have hr:(execOp (Ag ρ) ⟨d, .box e x,ty,pos,af,gd⟩).run P w = .ok (.value (.pointer (some ⟨w.heap.size,0,none⟩))) (w.alloc (.cells cs e)):=by
    show((Instr.box e (Ag ρ x)).run P w).andThen (fun v w=>Result.ok (Next.value v) w)=_
    rw[hx]
    rfl
  rw[hr]
  exact hk _ _ rfl (heap_alloc_new w _) ((Below.refl _ _).alloc (Nat.le_refl _) _) (by simp)
theorem Yk.lenRB{t e:TypeId}(ht:P.underlying t=some (.slice e)){x:Operand}{l:List UInt8}(h:RB w (Ag ρ x) l)(hk:K (NI l.length) w):Yk P K ((execOp (Ag ρ) ⟨d, .call ⟨.builtin .len,#[x],#[t]⟩,ty,pos,af,gd⟩).run P w):=by
  obtain⟨h1,ao,cap,hv,h2,h3,h4,h5⟩:=h
  refine Yk.value (v:=NI l.length) (w' :=w) ?_ hk
  unfold execOp
  simp[resolve,invoke,builtin,Builtin.len_,hv,run_underlying ht,goInt]
theorem Yk.lenSl{t e:TypeId}(ht:P.underlying t=some (.slice e)){x:Operand}{ao:Option Addr}{n c:Nat}(hx:Ag ρ x = .slice ao n c)(hk:K (NI n) w):Yk P K ((execOp (Ag ρ) ⟨d, .call ⟨.builtin .len,#[x],#[t]⟩,ty,pos,af,gd⟩).run P w):=by
  refine Yk.value (v:=NI n) (w' :=w) ?_ hk
  unfold execOp
  simp[resolve,invoke,builtin,Builtin.len_,hx,run_underlying ht,goInt]
theorem Yk.lenStr{t:TypeId}(ht:P.underlying t=some .string){x:Operand}{s:ByteArray}(hx:Ag ρ x = .string s)(hk:K (NI s.size) w):Yk P K ((execOp (Ag ρ) ⟨d, .call ⟨.builtin .len,#[x],#[t]⟩,ty,pos,af,gd⟩).run P w):=by
  refine Yk.value (v:=NI s.size) (w' :=w) ?_ hk
  unfold execOp
  simp[resolve,invoke,builtin,Builtin.len_,hx,run_underlying ht,goInt]
def PCell(v:Value):Bv:=fun x w=>∃a,x = .pointer (some a)∧w.cell? a=some v
theorem Stab.pcell(v:Value):Stab Ext (PCell v):=fun _ _ _ ⟨a,hx,hc⟩ h=>⟨a,hx,by rw[Below.cell h (World.block_lt_of_cell? _ a hc)];exact hc⟩
theorem Yk.atRB{t e:TypeId}(ht:P.underlying t=some (.slice e))(he:∀w' :World,(sizeOf e).run P w' = .ok 1 w'){x y:Operand}{l:List UInt8}(h:RB w (Ag ρ x) l){k:IntKind}{i:Nat}(hy:Ag ρ y = .int k (i:Int))(hi:i<l.length) 
    (hk:∀v,PCell (B8 (l.getD i 0)) v w→K v w):Yk P K ((execOp (Ag ρ) ⟨d, .indexAddr t x y,ty,pos,af,gd⟩).run P w):=by
  obtain⟨b,off,cap,hv,h1,h2,h3,h4⟩:=h.open_ (by omega)
  exact Yk.atSl ht he hv hy hi (hk _ ⟨_,rfl,h4 i hi⟩)
theorem Yk.loadC{t:TypeId}{desc:TypeDesc}(hu:P.underlying t=some desc)(hd:(match desc with | .struct _ | .array _ _=>false | _=>true)=true){x:Operand}{v:Value}(hx:PCell v (Ag ρ x) w)(hk:K v w):Yk P K ((execOp (Ag ρ) ⟨d, .load t x,ty,pos,af,gd⟩).run P w):=by
  obtain⟨a,ha,hc⟩:=hx
  exact Yk.cell1 hu hd ha hc hk
theorem Yk.eqI{op:BinOp}{t ty2:TypeId}{x y:Operand}{k:IntKind}{a b:Int}{v:Value}(hx:Ag ρ x = .int k a)(hy:Ag ρ y = .int k b)(hr:Go.binOp op t (.int k a) (.int k b)=pure v)(hk:K v w):Yk P K ((execOp (Ag ρ) ⟨d, .binOp op t x y ty2,ty,pos,af,gd⟩).run P w):=by
  have hg:eqGuard op t x y (.int k a) (.int k b)=pure ():=by
    unfold eqGuard
    cases op <;> rfl
  refine Yk.value (v:=v) (w' :=w) ?_ hk
  unfold execOp
  simp only[hx,hy,hg,hr,Sem.run_bind,Sem.run_pure,Result.andThen_ok]
theorem Yk.notB{t:TypeId}{x:Operand}{b:Bool}(hx:Ag ρ x = .bool b)(hk:K (.bool (!b)) w):Yk P K ((execOp (Ag ρ) ⟨d, .unOp .not t x,ty,pos,af,gd⟩).run P w):=by
  refine Yk.value (v:= .bool (!b)) (w' :=w) ?_ hk
  unfold execOp
  simp[hx,Op.unary]
theorem Yk.run{o:Oper}{v:Value}(hr:(execOp (Ag ρ) o).run P w = .ok (.value v) w)(hk:K v w):Yk P K ((execOp (Ag ρ) o).run P w):=by rw[hr];exact hk
theorem R6{src dst:TypeId}{ks kd:IntKind}(hs:P.underlying src=some (.int ks))(hd:P.underlying dst=some (.int kd))(a:Int)(w:World):(convert src dst (.int ks a)).run P w = .ok (.int kd (kd.wrap a)) w:=by
  simp only[convert,Sem.run_bind,run_underlying hs,run_underlying hd,Result.andThen_ok,Conv.intToInt,Sem.run_pure]
theorem Yk.convI{src dst:TypeId}{ks kd:IntKind}(hs:P.underlying src=some (.int ks))(hd:P.underlying dst=some (.int kd)){x:Operand}{a b:Int}(hx:Ag ρ x = .int ks a)(hb:kd.wrap a=b)(hk:K (.int kd b) w):Yk P K ((execOp (Ag ρ) ⟨d, .convert src dst x,ty,pos,af,gd⟩).run P w):=by
  refine Yk.value (v:= .int kd b) (w' :=w) ?_ hk
  have:=Go.Proofs.YtmonlobfofkbdaaGreatDoor.R6 (P:=P) hs hd a w
  unfold execOp
  simp only[hx,Sem.run_bind,this,Result.andThen_ok,Sem.run_pure,hb]
theorem Yk.appendRB(s x:Operand){t tx e e' :TypeId}(base:Nat)(z:Value)(ht:P.underlying t=some (.slice e))(hi:(P.info? e).map (fun i=>(i.zero,i.size,i.bytes))=some (some z,1,1))(hzs:z.cells.size=1)(hu:P.underlying tx=some (.slice e')) 
    (l m:List UInt8) (hown:w.ownsRow base e 1 (Ag ρ s) l.length (Lib.byteCells l)) (hsrc:RB w (Ag ρ x) m) (hb:l.length+m.length≤140737488355328) (hbase:base≤w.heap.size)
    (h:∀v' w',w'.ownsRow base e 1 v' (l++m).length (Lib.byteCells (l++m))→Grew w w' (Ag ρ s) v' →K v' w'):Yk P K ((execOp (Ag ρ) ⟨d, .call ⟨.builtin .append,#[s,x],#[t,tx]⟩,ty,pos,af,gd⟩).run P w):=
  Yk.append s x base e z 1 1 ht hi hzs l.length (Lib.byteCells l) hown m.length (Lib.byteCells m) (hsrc.src hu) (by unfold maxLen;omega) (by omega) hbase fun v' w' ho g=>h v' w' (by rw[List.length_append,Lib.byteCells_append];exact ho) g
theorem Fb(w:World)(e:TypeId)(l:List UInt8)(hl:l.length≤9223372036854775807):NewB e w (w.alloc (.cells (Lib.byteCells l).toArray e)) (.slice (some ⟨w.heap.size,0,none⟩) l.length l.length) l:=
  ⟨⟨by rw[Lib.byteCells_length];simp, .inr ⟨w.heap.size,l.length,(Lib.byteCells l).toArray,rfl,Nat.le_refl _,heap_alloc_new w _,Nat.le_refl _,hl,by simp[Lib.byteCells_length],by rw[show l.length*1=(Lib.byteCells l).length by rw[Lib.byteCells_length];simp];exact List.take_length⟩⟩,World.grownBy_alloc _ _ none⟩
theorem Yk.callA{f:FuncId}(hp:AI P f){args:Array Operand}{at_:Array TypeId}(vs:List Value)(hv:args.toList.map (Ag ρ)=vs) 
    (h:Calls P f vs.toArray w fun e w' =>∃v,e = .returned v∧K v w'):Yk P K ((execOp (Ag ρ) ⟨d, .call ⟨.value (.func f),args,at_⟩,ty,pos,af,gd⟩).run P w):=by
  subst hv
  have:=Yk.call (P:=P) (K:=K) hp (ρ:=ρ) (args:=args.toList) (at_:=at_) (dst:=d) (ty:=ty) (pos:=pos) (af:=af) (gd:=gd) (w:=w) h
  simpa using this
theorem Yk.callA0{f:FuncId}(hp:AI P f){at_:Array TypeId} 
    (h:Calls P f #[] w fun e w' =>∃v,e = .returned v∧K v w'):Yk P K ((execOp (Ag ρ) ⟨d, .call ⟨.value (.func f),#[],at_⟩,ty,pos,af,gd⟩).run P w):=
  Yk.callA hp [] (by simp) h
theorem Yk.callA1{f:FuncId}(hp:AI P f){x0:Operand}{a:Value}{at_:Array TypeId}(h0:Ag ρ x0=a) 
    (h:Calls P f #[a] w fun e w' =>∃v,e = .returned v∧K v w'):Yk P K ((execOp (Ag ρ) ⟨d, .call ⟨.value (.func f),#[x0],at_⟩,ty,pos,af,gd⟩).run P w):=
  Yk.callA hp [a] (by simp[h0]) h
theorem Yk.callA2{f:FuncId}(hp:AI P f){x0 x1:Operand}{a b:Value}{at_:Array TypeId}(h0:Ag ρ x0=a)(h1:Ag ρ x1=b) 
    (h:Calls P f #[a,b] w fun e w' =>∃v,e = .returned v∧K v w'):Yk P K ((execOp (Ag ρ) ⟨d, .call ⟨.value (.func f),#[x0,x1],at_⟩,ty,pos,af,gd⟩).run P w):=
  Yk.callA hp [a,b] (by simp[h0,h1]) h
theorem Yk.callA3{f:FuncId}(hp:AI P f){x0 x1 x2:Operand}{a b c:Value}{at_:Array TypeId}(h0:Ag ρ x0=a)(h1:Ag ρ x1=b)(h2:Ag ρ x2=c) 
    (h:Calls P f #[a,b,c] w fun e w' =>∃v,e = .returned v∧K v w'):Yk P K ((execOp (Ag ρ) ⟨d, .call ⟨.value (.func f),#[x0,x1,x2],at_⟩,ty,pos,af,gd⟩).run P w):=
  Yk.callA hp [a,b,c] (by simp[h0,h1,h2]) h
theorem Yk.convRB{src dst e:TypeId}(hs:P.underlying src=some (.slice e))(he:P.underlying e=some (.int .u8))(hd:P.underlying dst=some .string){x:Operand}{l:List UInt8} 
    (h:RB w (Ag ρ x) l) (hk:K (.string ⟨l.toArray⟩) w):Yk P K ((execOp (Ag ρ) ⟨d, .convert src dst x,ty,pos,af,gd⟩).run P w):=by
  have hr:=KP (P:=P) hs he hd h
  refine Yk.value (v:= .string ⟨l.toArray⟩) (w' :=w) ?_ hk
  unfold execOp
  simp only[Sem.run_bind,hr,Result.andThen_ok,Sem.run_pure]
theorem RB.of{v x:Value}{l:List UInt8}(h:RB w v l)(e:x=v):RB w x l:=by rw[e];exact h
theorem PCell.of{v x y:Value}(h:PCell v x w)(e:y=x):PCell v y w:=by rw[e];exact h
theorem B4{v x:Value}{b:Nat}{e:TypeId}{z n:Nat}{xs:List Value}(h:w.ownsRow b e z v n xs)(e' :x=v):w.ownsRow b e z x n xs:=by rw[e'];exact h
theorem oM{Q:Ce}{ops:Array Oper}{n:Nat}{rest:List Oper}{dst:Option Tmp}{x:Operand}{ty:TypeId}{pos:String}{af:Array Edge}(hd:(match dst with | some d=>Nat.blt d n | none=>true)=true)(h:Cn P ops n Q rest (BC ρ dst (Ag ρ x)) w):Cn P ops n Q (⟨dst, .move x,ty,pos,af,none⟩ :: rest) ρ w:=oS hd (Yk.move rfl h)
theorem oA{Q:Ce}{ops:Array Oper}{n:Nat}{rest:List Oper}{dst:Option Tmp}{x:Operand}{ty:TypeId}{pos:String}{af:Array Edge}(hd:(match dst with | some d=>Nat.blt d n | none=>true)=true)(h:Cn P ops n Q rest (BC ρ dst (Ag ρ x)) w):Cn P ops n Q (⟨dst, .assign x,ty,pos,af,none⟩ :: rest) ρ w:=oS hd (Yk.assign rfl h)
def Ga(ρ:Au):List (Nat × Value)→Prop
  | []=>True
  | (t,v) :: r=>ρ t=v∧Ga ρ r
theorem EndF.hold{ds:List Tmp}{ρ ρ' :Au}(h:EndF ds ρ ρ'):∀(l:List (Nat × Value)) (_:Ga ρ l) (_:(l.all fun p=> !ds.contains p.1)=true),Ga ρ' l
  | [],_,_=>trivial
  | (t,v) :: r,hl,hd=>by
    rw[List.all_cons,Bool.and_eq_true]at hd
    exact⟨h.at_ hl.1 (by simpa using hd.1),EndF.hold h r hl.2 hd.2⟩
theorem LO{Q:Ce}{e:Exit}(l:List (Nat × Value))(hF:Ga ρ l)(h:∀ρ',Ga ρ' l→Q e ρ' w):Q e ρ w:=h ρ hF
theorem A3{Q:Ce}{ops:Array Oper}{n:Nat}(l:List (Nat × Value))(hF:Ga ρ l)(h:∀ρ',Ga ρ' l→Q .normal ρ' w):Cn P ops n Q [] ρ w:=oZ (h ρ hF)
theorem AZ{w0 w w' :World}{v v' :Value}{b:Nat}{e:TypeId}{z n:Nat}{xs:List Value}(h:Ext w0 w)(g:Grew w w' v v')(ho:w.ownsRow b e z v n xs)(hb:w0.heap.size≤b):Ext w0 w' :=
  Below.grown h g.by_ h.size (fun k hk=>Nat.le_trans hb (ho.lt k hk).1)
theorem AN{w w' :World}{v v' :Value}{g:Nat}{o:Obj}(h:w.heap[g]? =some o)(gr:Grew w w' v v')(hne:v.ownBlock≠some g):w'.heap[g]? =some o:=
  (gr.by_.block g (Array.getElem?_eq_some_iff.1 h).1 (fun e=>hne e.symm)).trans h
theorem Be{w:World}{v:Value}{b:Nat}{e:TypeId}{z n:Nat}{xs:List Value}{g:Nat}(ho:w.ownsRow b e z v n xs)(hg:g<b):v.ownBlock≠some g:=fun h=>by have:=(ho.lt g h).1;omega
theorem CY{w:World}{v:Value}{b:Nat}{e:TypeId}{z n:Nat}{xs:List Value}{g:Nat}(ho:w.ownsRow b e z v n xs)(hg:w.heap.size≤g):v.ownBlock≠some g:=fun h=>by have:=(ho.lt g h).2;omega
theorem AU{w w' :World}{v v' :Value}{g:Nat}(gr:Grew w w' v v')(h:v.ownBlock≠some g)(hg:g<w.heap.size):v'.ownBlock≠some g:=fun h' =>by
  rcases gr.fresh g h' with h1 | h1
  · exact h h1
  · omega
theorem Df{w w' :World}{v:Value}{b:Nat}{e:TypeId}{z n:Nat}{xs:List Value}{g:Nat}(ho:w.ownsRow b e z v n xs)(h:w.grownBy w' (some g))(hne:v.ownBlock≠some g):w'.ownsRow b e z v n xs:=
  ho.kept h (.inr hne)
theorem Yk.lit1{t e:TypeId}(hr:∀(z:Int) (w:World),(Instr.buildSlice t 1 #[(0, .int .u8 z)]).run P w = .ok (.slice (some ⟨w.heap.size,0,none⟩) 1 1) (w.alloc (.cells #[.int .u8 z] e))){x:Operand}{b:UInt8}(hx:Ag ρ x=B8 b) 
    (hk:∀v w',NewB e w w' v [b]→K v w'):Yk P K ((execOp (Ag ρ) ⟨d, .buildSlice t 1 #[(0,x)],ty,pos,af,gd⟩).run P w):=by
  have hr' :(execOp (Ag ρ) ⟨d, .buildSlice t 1 #[(0,x)],ty,pos,af,gd⟩).run P w = .ok (.value (.slice (some ⟨w.heap.size,0,none⟩) 1 1)) (w.alloc (.cells #[B8 b] e)):=by
    have:=hr (b.toNat:Int) w
    unfold execOp
    simp only[List.map_toArray,List.map_cons,List.map_nil,hx,Sem.run_bind]
    rw[this]
    rfl
  rw[hr']
  exact hk _ _ (Fb w e [b] (by simp))
theorem Yk.lit0{t e:TypeId}(hr:∀(w:World),(Instr.buildSlice t 0 #[]).run P w = .ok (.slice (some ⟨w.heap.size,0,none⟩) 0 0) (w.alloc (.cells #[] e))) 
    (hk:∀v w',NewB e w w' v []→K v w'):Yk P K ((execOp (Ag ρ) ⟨d, .buildSlice t 0 #[],ty,pos,af,gd⟩).run P w):=by
  have hr' :(execOp (Ag ρ) ⟨d, .buildSlice t 0 #[],ty,pos,af,gd⟩).run P w = .ok (.value (.slice (some ⟨w.heap.size,0,none⟩) 0 0)) (w.alloc (.cells #[] e)):=by
    unfold execOp
    simp only[List.map_toArray,List.map_nil,Sem.run_bind,hr,Result.andThen_ok,Sem.run_pure]
  rw[hr']
  exact hk _ _ (Fb w e [] (by decide))
theorem Kh(l:List UInt8)(i:Nat)(x:UInt8):(Lib.byteCells l).set i (B8 x)=Lib.byteCells (l.set i x):=by simp[Lib.byteCells,List.map_set]
theorem Al{b:Nat}{l:List Value}{t:TypeId}{fr:Nat × Nat}(h:w.heap[b]? =some (.cells l.toArray t fr)){i:Nat}{v:Value}(hi:l[i]? =some v):w.cell? ⟨b,i,none⟩=some v:=by
  simp[World.cell?,h,hi]
theorem Yk.storeC{t' :TypeId}{x y:Operand}{g i:Nat}{cs:List Value}{t:TypeId}{v:Value}(hx:Ag ρ x = .pointer (some ⟨g,i,none⟩))(hy:Ag ρ y=v)(hg:w.heap[g]? =some (.cells cs.toArray t (0,0)))(hi:i<cs.length)(hinfo:(P.info? t').map (·.size)=some 1)(hv:v.cells = #[v])(h1:v.oneCell' =true) 
    (hk:∀w',w'.heap[g]? =some (.cells (cs.set i v).toArray t (0,0))→w.grownBy w' (some g)→w'.heap.size=w.heap.size→K undef w'):Yk P K ((execOp (Ag ρ) ⟨d, .store t' x y,ty,pos,af,gd⟩).run P w):=by
  have hst:=run_storeCells_at P g i t [v] 0 cs.toArray w hg (by simp;omega) (by simpa using h1)
  have e:(cs.toArray.toList.take (i+0)++ [v]++cs.toArray.toList.drop (i+0+ [v].length))=cs.set i v:=by
    rw[List.set_eq_take_append_cons_drop,if_pos hi]
    simp
  rw[e]at hst
  have hr:(Instr.storeAt t' (.pointer (some ⟨g,i,none⟩)) v).run P w = .ok () (w.setRow g (cs.set i v).toArray):=by
    cases hq:P.info? t' with
    | none=>simp[hq]at hinfo
    | some q=>
      have hs:q.size=1:=by simp[hq]at hinfo;omega
      simp[Instr.storeAt,Instr.sureAddr,storeVar,sizeOf,typeInfo,hq,hv,hs,hst]
  unfold execOp
  simp only[hx,hy,hr,Sem.run_bind,Result.andThen_ok,Sem.run_pure]
  exact hk _ (setRow_heap w g cs.toArray _ t (0,0) hg) ⟨rfl,rfl,rfl,by simp,fun k _ hk=>setRow_other w g k _ (fun e=>hk (by rw[e]))⟩ (by simp)
theorem Yk.storeB8{t' :TypeId}{x y:Operand}{g i:Nat}{l:List UInt8}{t:TypeId}{v:UInt8}(hx:Ag ρ x = .pointer (some ⟨g,i,none⟩))(hy:Ag ρ y=B8 v)(hg:w.heap[g]? =some (.cells (Lib.byteCells l).toArray t (0,0)))(hi:i<l.length)(hinfo:(P.info? t').map (·.size)=some 1) 
    (hk:∀w',w'.heap[g]? =some (.cells (Lib.byteCells (l.set i v)).toArray t (0,0))→w.grownBy w' (some g)→w'.heap.size=w.heap.size→K undef w'):Yk P K ((execOp (Ag ρ) ⟨d, .store t' x y,ty,pos,af,gd⟩).run P w):=
  Yk.storeC hx hy hg (by rw[Lib.byteCells_length];exact hi) hinfo rfl rfl fun w' h1 h2 h3=>hk w' (by rw[←Kh];exact h1) h2 h3
theorem Yk.storeAll{t' :TypeId}{x y:Operand}{g:Nat}{cells cur:Array Value}{t:TypeId}(hx:Ag ρ x = .pointer (some ⟨g,0,none⟩))(hy:Ag ρ y = .agg cells)(hg:w.heap[g]? =some (.cells cur t (0,0)))(hs:cells.size=cur.size)(hi:(P.info? t').map (·.size)=some cells.size)(h1:∀v∈cells.toList,v.oneCell' =true) 
    (hk:∀w',w'.heap[g]? =some (.cells cells t (0,0))→w.grownBy w' (some g)→w'.heap.size=w.heap.size→K undef w'):Yk P K ((execOp (Ag ρ) ⟨d, .store t' x y,ty,pos,af,gd⟩).run P w):=by
  have hr:=Fr (P:=P) w g t' cells cur t hg hs hi h1
  unfold execOp
  simp only[hx,hy,hr,Sem.run_bind,Result.andThen_ok,Sem.run_pure]
  exact hk _ (setRow_heap w g cur cells t (0,0) hg) ⟨rfl,rfl,rfl,by simp,fun k _ hk=>setRow_other w g k _ (fun e=>hk (by rw[e]))⟩ (by simp)
theorem Yk.loadAll{t' :TypeId}{x:Operand}{g:Nat}{cs:Array Value}{t:TypeId}{fr:Nat × Nat}{de:TypeDesc}(hx:Ag ρ x = .pointer (some ⟨g,0,none⟩))(hg:w.heap[g]? =some (.cells cs t fr))(hu:P.underlying t' =some de)(hd:(match de with | .struct _ | .array _ _=>true | _=>false)=true)(hi:(P.info? t').map (·.size)=some cs.size) 
    (hk:K (.agg cs) w):Yk P K ((execOp (Ag ρ) ⟨d, .load t' x,ty,pos,af,gd⟩).run P w):=by
  have hr:=run_loadVar_row w g t t' cs fr de hg hu hd hi
  refine Yk.value (v:= .agg cs) (w' :=w) ?_ hk
  unfold execOp
  simp[hx,Instr.loadAt,Instr.sureAddr,hr]
def Pj:Value→Nat
  | .slice _ n _=>n
  | _=>0
theorem Ec{b:Nat}{e:TypeId}{z n:Nat}{xs:List Value}{v:Value}(h:w.ownsRow b e z v n xs):Pj v=n:=by
  rcases h.2 with ⟨rfl,h0⟩ | ⟨g,cap,cur,rfl,-⟩
  · exact h0.symm
  · rfl
theorem BW{b:Nat}{e:TypeId}{v:Value}{l l' :List UInt8}(h:w.ownsRow b e 1 v l.length (Lib.byteCells l))(e' :l=l'):w.ownsRow b e 1 v l'.length (Lib.byteCells l'):=by rw[←e'];exact h
theorem AG{g:Nat}{l l' :List Value}{t:TypeId}{fr:Nat × Nat}(h:w.heap[g]? =some (.cells l.toArray t fr))(e:l=l'):w.heap[g]? =some (.cells l'.toArray t fr):=by rw[←e];exact h
theorem Yk.sliceLH{t e:TypeId}(ht:P.underlying t=some (.slice e))(he:∀w' :World,(sizeOf e).run P w' = .ok 1 w'){x lo hi:Operand}{v:Value}{xs:List UInt8}(hx:Ag ρ x=v)(h:RB w v xs){k k' :IntKind}{l n:Nat}(hlo:Ag ρ lo = .int k (l:Int))(hhi:Ag ρ hi = .int k' (n:Int))(hl:l≤n)(hn:n≤xs.length) 
    (hk:∀v',RB w v' ((xs.drop l).take (n-l))→v'.ownBlock=v.ownBlock→K v' w):Yk P K ((execOp (Ag ρ) ⟨d, .slice t x (some lo) (some hi) none,ty,pos,af,gd⟩).run P w):=by
  obtain⟨ao,c,⟨hrun,hb⟩,hR⟩:=Eu ht he h (some (.int k l)) (some (.int k' n)) l n hl hn (.inr ⟨k,rfl⟩) (.inr ⟨k',rfl⟩)
  refine Yk.value (v:= .slice ao (n-l) c) (w' :=w) ?_ (hk _ (RB.take_drop hn hR) hb)
  unfold execOp
  simp only[hx,hlo,hhi,Option.map_some,Option.map_none,hrun,Sem.run_bind,Sem.run_pure,Result.andThen_ok]
theorem Yk.loadPart{t' :TypeId}{x:Operand}{g o:Nat}{cs:List Value}{de:TypeDesc}(hx:Ag ρ x = .pointer (some ⟨g,o,none⟩))(hc:w.rangeAt g o cs)(hu:P.underlying t' =some de)(hd:de.isRow=true)(hi:(P.info? t').map (·.size)=some cs.length) 
    (hk:K (.agg cs.toArray) w):Yk P K ((execOp (Ag ρ) ⟨d, .load t' x,ty,pos,af,gd⟩).run P w):=by
  refine Yk.value (v:= .agg cs.toArray) (w' :=w) ?_ hk
  simp only[execOp,hx,Sem.run_bind,run_loadAt_mid w g o t' cs de hc hu hd hi,Result.andThen_ok,Sem.run_pure]
section
variable {Q : Ce} {K : Au → World → Prop}
theorem tN(h:K ρ w):Fs K Q .normal ρ w:=h
theorem Ar{i:Nat}(h:Q (.exit i) ρ w):Fs K Q (.exit i) ρ w:=h
theorem An(h:Q .ret ρ w):Fs K Q .ret ρ w:=h
theorem bN{i:Nat}(h:Q .normal ρ w):DR i Q .normal ρ w:=h
theorem AE{i:Nat}(h:Q .ret ρ w):DR i Q .ret ρ w:=h
theorem Az{i:Nat}(h:Q .normal ρ w):DR i Q (.exit i) ρ w:=by
  simp only[DR,if_true]
  exact h
end
theorem Dw{t:TypeId}(h:(match P.underlying t with | some (.struct _)=>true | _=>false)=true):∃fs,P.underlying t=some (.struct fs):=by
  split at h
  · exact⟨_,‹_›⟩
  · cases h
theorem Yk.atArr0{t e:TypeId}{n:Nat}(ht:P.underlying t=some (.array n e))(he:∀w' :World,(sizeOf e).run P w' = .ok 1 w'){x y:Operand}{b i:Nat}{k:IntKind} 
    (hx:Ag ρ x = .pointer (some ⟨b,0,none⟩)) (hy:Ag ρ y = .int k (i:Int)) (hi:i<n) (hk:K (.pointer (some ⟨b,i,none⟩)) w):Yk P K ((execOp (Ag ρ) ⟨d, .indexAddr t x y,ty,pos,af,gd⟩).run P w):=
  Yk.atArr ht he hx hy hi (by rw[Nat.zero_add];exact hk)
theorem Af{w0 w1 a:World}{g:Nat}(h0:Ext w0 w1)(h:w1.grownBy a (some g))(hg:w0.heap.size≤g):Ext w0 a:=
  Below.grown h0 h h0.size (fun k hk=>by cases hk;exact hg)
end
/-! ### Numbers that are not below 0 -/
section
theorem AX(t:TypeId)(k:IntKind)(a b:Nat):Go.binOp .lss t (.int k (a:Int)) (.int k (b:Int))=pure (.bool (decide (a<b))):=by
  simp[Go.binOp,Op.intCmp]
theorem Cs(t:TypeId)(k:IntKind)(a b:Nat):Go.binOp .leq t (.int k (a:Int)) (.int k (b:Int))=pure (.bool (decide (a≤b))):=by
  simp[Go.binOp,Op.intCmp]
theorem BA(t:TypeId)(k:IntKind)(a b:Nat):Go.binOp .gtr t (.int k (a:Int)) (.int k (b:Int))=pure (.bool (decide (b<a))):=by
  simp[Go.binOp,Op.intCmp]
theorem Ds(t:TypeId)(k:IntKind)(a b:Nat):Go.binOp .geq t (.int k (a:Int)) (.int k (b:Int))=pure (.bool (decide (b≤a))):=by
  simp[Go.binOp,Op.intCmp]
theorem A2(t:TypeId)(k:IntKind)(a b:Nat):Go.binOp .eql t (.int k (a:Int)) (.int k (b:Int))=pure (.bool (decide (a=b))):=by
  have:((a:Int)==(b:Int))=decide (a=b):=by rw[Bool.eq_iff_iff];simp;omega
  simp[Go.binOp,Op.intCmp,this]
theorem BO(t:TypeId)(k:IntKind)(a b:Nat):Go.binOp .neq t (.int k (a:Int)) (.int k (b:Int))=pure (.bool (decide (a≠b))):=by
  have:((a:Int) != (b:Int))=decide (a≠b):=by rw[Bool.eq_iff_iff];simp;omega
  simp[Go.binOp,Op.intCmp,this]
theorem Kz(t:TypeId)(k:IntKind)(a b:Int):Go.binOp .lss t (.int k a) (.int k b)=pure (.bool (decide (a<b))):=by simp[Go.binOp,Op.intCmp]
theorem Rs(t:TypeId)(k:IntKind)(a b:Int):Go.binOp .gtr t (.int k a) (.int k b)=pure (.bool (decide (b<a))):=by simp[Go.binOp,Op.intCmp]
theorem P3(t:TypeId)(k:IntKind)(a b:Int):Go.binOp .geq t (.int k a) (.int k b)=pure (.bool (decide (b≤a))):=by simp[Go.binOp,Op.intCmp]
theorem Rt(t:TypeId)(k:IntKind)(a b:Int):Go.binOp .eql t (.int k a) (.int k b)=pure (.bool (decide (a=b))):=by
  have:(a==b)=decide (a=b):=by rw[Bool.eq_iff_iff];simp
  simp[Go.binOp,Op.intCmp,this]
theorem BJ(n:Nat)(h:n<9223372036854775808):IntKind.i64.wrap (n:Int)=(n:Int):=by
  simp only[IntKind.wrap,IntKind.bits,IntKind.signed]
  have:(n:Int)%(2^64:Int)=n:=by omega
  simp only[this]
  rw[if_neg]
  simp
  omega
theorem AA(t:TypeId)(a b:Nat)(h:a+b<9223372036854775808):Go.binOp .add t (.int .i64 (a:Int)) (.int .i64 (b:Int))=pure (.int .i64 ((a+b:Nat):Int)):=by
  unfold Go.binOp
  simp only[ne_eq,not_true_eq_false,if_false,Op.intArith]
  rw[←Int.natCast_add,BJ _ h]
theorem Mi(t:TypeId)(a b:Nat)(h:a*b<9223372036854775808):Go.binOp .mul t (.int .i64 (a:Int)) (.int .i64 (b:Int))=pure (.int .i64 ((a*b:Nat):Int)):=by
  unfold Go.binOp
  simp only[ne_eq,not_true_eq_false,if_false,Op.intArith]
  rw[←Int.natCast_mul,BJ _ h]
theorem B5(t:TypeId)(a b:Nat)(h:a<9223372036854775808)(hb:b≤a):Go.binOp .sub t (.int .i64 (a:Int)) (.int .i64 (b:Int))=pure (.int .i64 ((a-b:Nat):Int)):=by
  unfold Go.binOp
  simp only[ne_eq,not_true_eq_false,if_false,Op.intArith]
  rw[←Int.natCast_sub hb,BJ _ (by omega)]
theorem E1(t:TypeId)(a b:Nat)(h:a<9223372036854775808)(hb:0<b):Go.binOp .quo t (.int .i64 (a:Int)) (.int .i64 (b:Int))=pure (.int .i64 ((a/b:Nat):Int)):=by
  unfold Go.binOp
  simp only[ne_eq,not_true_eq_false,if_false,Op.intDiv]
  rw[if_neg (by omega),←Int.ofNat_tdiv,BJ _ (Nat.lt_of_le_of_lt (Nat.div_le_self a b) h)]
theorem DY(t:TypeId)(a b:Nat)(hb:0<b):Go.binOp .rem t (.int .i64 (a:Int)) (.int .i64 (b:Int))=pure (.int .i64 ((a%b:Nat):Int)):=by
  unfold Go.binOp
  simp only[ne_eq,not_true_eq_false,if_false,Op.intDiv]
  rw[if_neg (by omega),←Int.ofNat_tmod]
theorem RN(t:TypeId)(a:Nat)(j:IntKind)(n:Nat)(hn:n<64):Go.binOp .shr t (.int .i64 (a:Int)) (.int j (n:Int))=pure (.int .i64 ((a/2^n:Nat):Int)):=by
  unfold Go.binOp
  simp only[Op.shift,IntKind.bits]
  rw[if_neg (by omega),Int.toNat_natCast,Nat.min_eq_left (by omega)]
  have:(a:Int).fdiv (2^n)=((a/2^n:Nat):Int):=by
    rw[show(2^n:Int)=((2^n:Nat):Int) by simp,Int.fdiv_eq_ediv_of_nonneg _ (Int.natCast_nonneg _)]
    rfl
  rw[this]
theorem Pk(n:Nat)(h:n<18446744073709551616):IntKind.u64.wrap (n:Int)=(n:Int):=by
  simp only[IntKind.wrap,IntKind.bits,IntKind.signed]
  have:(n:Int)%(2^64:Int)=n:=by omega
  simp only[this]
  simp
theorem Qk(t:TypeId)(a:Nat)(j:IntKind)(n:Nat)(hn:n<64):Go.binOp .shr t (.int .u64 (a:Int)) (.int j (n:Int))=pure (.int .u64 ((a/2^n:Nat):Int)):=by
  unfold Go.binOp
  simp only[Op.shift,IntKind.bits]
  rw[if_neg (by omega),Int.toNat_natCast,Nat.min_eq_left (by omega)]
  have:(a:Int).fdiv (2^n)=((a/2^n:Nat):Int):=by
    rw[show(2^n:Int)=((2^n:Nat):Int) by simp,Int.fdiv_eq_ediv_of_nonneg _ (Int.natCast_nonneg _)]
    rfl
  rw[this]
theorem Ql(n:Nat)(h:n<256):IntKind.u8.wrap (n:Int)=(n:Int):=by
  simp only[IntKind.wrap,IntKind.bits,IntKind.signed]
  have:(n:Int)%(2^8:Int)=n:=by omega
  simp only[this]
  simp
theorem DH(n:Nat):IntKind.u8.wrap (n:Int)=((UInt8.ofNat n).toNat:Int):=by
  rw[Qi]
  simp
theorem C6(k:IntKind)(b:UInt8)(h:∀n:Nat,n<256→k.wrap (n:Int)=(n:Int)):k.wrap (b.toNat:Int)=((b.toNat:Nat):Int):=h _ b.toNat_lt
end
open Go.RowKit
variable {P : Program}
def CO(l1 l2:List UInt8):List Nat→Bool
  | []=>true
  | i :: r=>if l1.getD i 0=l2.getD i 0 then CO l1 l2 r else false
theorem GN(l1 l2:List UInt8):∀is:List Nat,CO l1 l2 is=true↔∀i∈is,l1.getD i 0=l2.getD i 0
  | []=>by simp[CO]
  | i :: r=>by
    have ih:=GN l1 l2 r
    unfold CO
    split
    · rename_i h
      rw[ih]
      constructor
      · intro h2 j hj
        rcases List.mem_cons.1 hj with rfl | hj
        · exact h
        · exact h2 j hj
      · exact fun h2 j hj=>h2 j (List.mem_cons_of_mem _ hj)
    · rename_i h
      constructor
      · intro h2;cases h2
      · intro h2;exact absurd (h2 i (by simp)) h
theorem byte_eq(a b:UInt8):((a.toNat:Int)==(b.toNat:Int))=decide (a=b):=by
  rw[Bool.eq_iff_iff]
  simp
  constructor
  · intro h;exact UInt8.toNat_inj.1 (by omega)
  · intro h;rw[h]
theorem run_eqArray(w:World){t e:TypeId}{n d:Nat}(ht:P.underlying t=some (.array n e))(he:P.underlying e=some (.int .u8))(hs:(sizeOf e).run P w = .ok 1 w)(l1 l2:List UInt8)(h1:l1.length=n)(h2:l2.length=n):
    (Op.equalIn (d+1+1) t (.agg (Lib.byteCells l1).toArray) (.agg (Lib.byteCells l2).toArray)).run P w = .ok (decide (l1=l2)) w:=by
  have hagg:(isAgg e).run P w = .ok false w:=by
    unfold isAgg
    rw[Sem.run_bind,run_underlying he w]
    rfl
  have hpart:∀(l:List UInt8) (i:Nat),i<l.length→(part e (Lib.byteCells l).toArray (i*1)).run P w = .ok (.int .u8 ((l.getD i 0).toNat:Int)) w:=fun l i hi=>by
    unfold part
    rw[Sem.run_bind,hagg]
    simp[Lib.byteCells,hi,Sem.run_pure]
  have key:∀(is:List Nat),(∀i∈is,i<n)→∀(f:Nat→(Option Bool × Unit)→Sem (ForInStep ((Option Bool × Unit)))),
      (∀i r,i<n→(f i r).run P w=if l1.getD i 0=l2.getD i 0 then .ok (.yield (none,())) w else .ok (.done (some false,())) w) →
      ∀r,r.1=none→(forIn is r f).run P w = .ok (if CO l1 l2 is=true then none else some false,()) w:=by
    intro is
    induction is with
    | nil=>
      intro _ f _ r hr
      obtain⟨a,b⟩:=r
      simp at hr
      subst hr
      simp[CO,Sem.run_pure]
    | cons i is ih=>
      intro hi f hf r hr
      simp only[List.forIn_cons,Sem.run_bind,hf i r (hi i (by simp))]
      by_cases h:l1.getD i 0=l2.getD i 0
      · rw[if_pos h]
        simp only[Result.andThen_ok]
        rw[ih (fun j hj=>hi j (List.mem_cons_of_mem _ hj)) f hf (none,()) rfl]
        simp only[CO,if_pos h]
      · rw[if_neg h]
        simp only[Result.andThen_ok,Sem.run_pure,CO,if_neg h]
        rfl
  obtain⟨D,hD⟩:∃D,D=d+1:=⟨_,rfl⟩
  rw[←hD]
  simp only[Op.equalIn,Sem.run_bind,run_underlying ht,Result.andThen_ok,hs]
  rw[Std.Legacy.Range.forIn_eq_forIn_range']
  have hsz:([:n]:Std.Legacy.Range).size=n:=by simp[Std.Legacy.Range.size]
  rw[hsz,key (List.range' 0 n 1) (fun i hi=>by simpa using hi)]
  · have hiff:=GN l1 l2 (List.range' 0 n 1)
    have hl:l1=l2↔CO l1 l2 (List.range' 0 n 1)=true:=by
      rw[hiff]
      constructor
      · intro h i _;rw[h]
      · intro h
        apply List.ext_getElem (by omega)
        intro i hi1 hi2
        have:=h i (by simp;omega)
        simpa [hi1,hi2] using this
    by_cases h:l1=l2
    · rw[hl.1 h,decide_eq_true h]
      simp[Sem.run_pure]
    · have h' :CO l1 l2 (List.range' 0 n 1)=false:=by
        cases hb:CO l1 l2 (List.range' 0 n 1)with
        | false=>rfl
        | true=>exact absurd (hl.2 hb) h
      rw[h',decide_eq_false h]
      simp[Sem.run_pure]
  · intro i r hi
    simp only[Sem.run_bind,hpart l1 i (by omega),hpart l2 i (by omega),Result.andThen_ok,hD,run_equalIn_int w d e .u8 .u8 _ _ he]
    by_cases h:l1.getD i 0=l2.getD i 0
    · rw[if_pos h,byte_eq,decide_eq_true h]
      simp[Sem.run_pure]
    · rw[if_neg h,byte_eq,decide_eq_false h]
      simp[Sem.run_pure]
  · rfl
theorem Ki(w:World){t e:TypeId}{n:Nat}(ht:P.underlying t=some (.array n e))(he:P.underlying e=some (.int .u8))(hs:(sizeOf e).run P w = .ok 1 w)(hg:P.eqGuardType P.depth t=false)(l1 l2:List UInt8)(h1:l1.length=n)(h2:l2.length=n)(x y:Operand):
    (do eqGuard .eql t x y (.agg (Lib.byteCells l1).toArray) (.agg (Lib.byteCells l2).toArray);binOp .eql t (.agg (Lib.byteCells l1).toArray) (.agg (Lib.byteCells l2).toArray):Sem Value).run P w = .ok (.bool (decide (l1=l2))) w:=by
  have he2:(eqGuard .eql t x y (.agg (Lib.byteCells l1).toArray) (.agg (Lib.byteCells l2).toArray)).run P w = .ok () w:=by
    simp[eqGuard,hg]
  rw[Sem.run_bind,he2,Result.andThen_ok,run_eql_struct,run_eqArray (d:=9998) w ht he hs l1 l2 h1 h2]
  rfl
theorem LP{ρ:Operand→Value}{d:Option Tmp}{x y:Operand}{ty2 tt:TypeId}{pos:String}{af:Array Edge}{gd:Option (Nat × Bool)}{w:World}{t e:TypeId}{n:Nat}(ht:P.underlying t=some (.array n e))(he:P.underlying e=some (.int .u8))(hs:(sizeOf e).run P w = .ok 1 w)(hg:P.eqGuardType P.depth t=false){l1 l2:List UInt8}(h1:l1.length=n)(h2:l2.length=n) 
    (hx:ρ x = .agg (Lib.byteCells l1).toArray) (hy:ρ y = .agg (Lib.byteCells l2).toArray):(execOp ρ ⟨d, .binOp .eql t x y ty2,tt,pos,af,gd⟩).run P w = .ok (.value (.bool (decide (l1=l2)))) w:=by
  have h:=Ki (P:=P) w ht he hs hg l1 l2 h1 h2 x y
  simp only[execOp,hx,hy]
  rw[Sem.run_bind,h]
  rfl
open Go.RowKit
theorem Ext.cellX{w w' :World}(h:Ext w w'){a:Addr}{v:Value}(hc:w.cell? a=some v):w'.cell? a=some v:=by
  rw[Below.cell h (World.block_lt_of_cell? w a hc)]
  exact hc
theorem Reads.keep{w w' :World}{z n:Nat}{v:Value}{xs:List Value}(h:Reads w z v n xs)(k:Ext w w'):Reads w' z v n xs:=by
  obtain⟨h1,ao,cap,rfl,h2,h3,h4,h5⟩:=h
  exact⟨h1,ao,cap,rfl,h2,h3,h4,fun a ha j u hu=>Ext.cellX k (h5 a ha j u hu)⟩
theorem RB.nil(w:World):RB w (.slice none 0 0) []:=⟨rfl,none,0,rfl,Nat.le_refl _,by simp[maxLen],fun _=>⟨rfl,rfl⟩,fun a h=>by cases h⟩
theorem RB.lt{w:World}{v:Value}{l:List UInt8}(h:RB w v l)(hl:0<l.length){b:Nat}(hb:v.ownBlock=some b):b<w.heap.size:=by
  obtain⟨b',off,cap,rfl,-,-,h1,-⟩:=h.open_ hl
  simp[Value.ownBlock]at hb
  omega
theorem RB.slice{w:World}{v:Value}{l:List UInt8}(h:RB w v l):∃ao n c,v = .slice ao n c:=by
  obtain⟨h1,ao,cap,rfl,-⟩:=h
  exact⟨ao,_,cap,rfl⟩
section
variable {P : Program} {K : Value → World → Prop} {ρ : Au} {w : World} {d : Option Tmp} {ty : TypeId} {pos : String} {af : Array Edge} {gd : Option (Nat × Bool)}
theorem Yk.eqArr{t e ty2:TypeId}{n:Nat}(ht:P.underlying t=some (.array n e))(he:P.underlying e=some (.int .u8))(hs:∀w:World,(sizeOf e).run P w = .ok 1 w)(hg:P.eqGuardType P.depth t=false){x y:Operand}{l1 l2:List UInt8}(hx:Ag ρ x = .agg (Lib.byteCells l1).toArray)(hy:Ag ρ y = .agg (Lib.byteCells l2).toArray)(h1:l1.length=n)(h2:l2.length=n) 
    (hk:K (.bool (decide (l1=l2))) w):Yk P K ((execOp (Ag ρ) ⟨d, .binOp .eql t x y ty2,ty,pos,af,gd⟩).run P w):=
  Yk.value (LP ht he (hs w) hg h1 h2 hx hy) hk
theorem Yk.neArr{t e ty2:TypeId}{n:Nat}(ht:P.underlying t=some (.array n e))(he:P.underlying e=some (.int .u8))(hs:∀w:World,(sizeOf e).run P w = .ok 1 w)(hg:P.eqGuardType P.depth t=false){x y:Operand}{l1 l2:List UInt8}(hx:Ag ρ x = .agg (Lib.byteCells l1).toArray)(hy:Ag ρ y = .agg (Lib.byteCells l2).toArray)(h1:l1.length=n)(h2:l2.length=n) 
    (hk:K (.bool (decide (l1≠l2))) w):Yk P K ((execOp (Ag ρ) ⟨d, .binOp .neq t x y ty2,ty,pos,af,gd⟩).run P w):=by
  have he2:(eqGuard .neq t x y (.agg (Lib.byteCells l1).toArray) (.agg (Lib.byteCells l2).toArray)).run P w = .ok () w:=by
    simp[eqGuard,hg]
  have heq:(Op.equal t (.agg (Lib.byteCells l1).toArray) (.agg (Lib.byteCells l2).toArray)).run P w = .ok (decide (l1=l2)) w:=run_eqArray (d:=9998) w ht he (hs w) l1 l2 h1 h2
  have hb:(!decide (l1=l2))=decide (l1≠l2):=by simp
  refine Yk.value (v:= .bool (decide (l1≠l2))) (w' :=w) ?_ hk
  unfold execOp
  simp only[hx,hy,Sem.run_bind,he2,Result.andThen_ok,Go.binOp,heq,Sem.run_pure,hb]
end
open Go.RowKit
section
variable {P : Program} {K : Value → World → Prop} {ρ : Au} {w : World} {d : Option Tmp} {ty : TypeId} {pos : String} {af : Array Edge} {gd : Option (Nat × Bool)}
theorem Yk.idxSt{t:TypeId}(ht:P.underlying t=some .string){x y:Operand}{l:List UInt8}{k:IntKind}{i:Nat}(hx:Ag ρ x=St l)(hy:Ag ρ y = .int k (i:Int))(hi:i<l.length)(hk:K (B8 (l.getD i 0)) w):Yk P K ((execOp (Ag ρ) ⟨d, .index t x y,ty,pos,af,gd⟩).run P w):=by
  refine Yk.value (v:=B8 (l.getD i 0)) (w' :=w) ?_ hk
  have hb:(⟨l.toArray⟩:ByteArray)[i]? =some (l.getD i 0):=by
    rw[getElem?_pos (⟨l.toArray⟩:ByteArray) i (show i<l.toArray.size by simpa using hi)]
    show some (l.toArray[i]'(by simpa using hi))=_
    simp[hi]
  unfold execOp
  simp only[hx,hy,Instr.index,asIntOf,Sem.run_bind,Sem.run_pure,Result.andThen_ok,run_underlying ht]
  rw[if_pos (by omega),Int.toNat_natCast,hb]
  rfl
theorem MB(l:List UInt8)(a b:Nat):(⟨l.toArray⟩:ByteArray).extract a b=⟨((l.drop a).take (b-a)).toArray⟩:=by
  apply ByteArray.ext
  rw[ByteArray.data_extract]
  simp only[List.extract_toArray,List.extract_eq_take_drop]
theorem Yk.sliceSt{t:TypeId}(ht:P.underlying t=some .string){x:Operand}{lo hi:Option Operand}{l:List UInt8}(a b:Nat)(hx:Ag ρ x=St l)(hlo:lo.map (Ag ρ)=none∧a=0∨∃k,lo.map (Ag ρ)=some (.int k a))(hhi:hi.map (Ag ρ)=none∧b=l.length∨∃k,hi.map (Ag ρ)=some (.int k b))(hab:a≤b)(hb:b≤l.length) 
    (hk:K (St ((l.drop a).take (b-a))) w):Yk P K ((execOp (Ag ρ) ⟨d, .slice t x lo hi none,ty,pos,af,gd⟩).run P w):=by
  refine Yk.value (v:=St ((l.drop a).take (b-a))) (w' :=w) ?_ hk
  have hs:(⟨l.toArray⟩:ByteArray).size=l.length:=by show l.toArray.size=_;simp
  have hr:(Instr.sliceAt t (St l) (lo.map (Ag ρ)) (hi.map (Ag ρ)) none).run P w = .ok (St ((l.drop a).take (b-a))) w:=by
    have hE:=MB l a b
    rcases hlo with ⟨h1,rfl⟩ | ⟨k,h1⟩ <;> rcases hhi with ⟨h2,rfl⟩ | ⟨k',h2⟩ <;> rw[h1,h2] <;>
      simp[Instr.sliceAt,Instr.slice,run_underlying ht,Instr.sliceBounds,Instr.sliceBound,asIntOf,hs] <;>
      first
        | (simp[hE];done)
        | (rw[if_pos (by omega)];simp[hE];done)
        | (rw[if_pos hb,if_pos hab,hE];done)
        | (intro h;omega)
  unfold execOp
  simp only[hx,Option.map_none,hr,Sem.run_bind,Sem.run_pure,Result.andThen_ok]
theorem El(l:List UInt8):(⟨l.toArray⟩:ByteArray).toList=l:=by
  rw[ByteArray.toList_eq]
theorem P4(l m:List UInt8):((⟨l.toArray⟩:ByteArray).toList==(⟨m.toArray⟩:ByteArray).toList)=decide (l=m):=by
  rw[El,El,Bool.eq_iff_iff]
  simp
theorem Yk.eqSt{op:BinOp}(hop:op = .eql∨op = .neq){t ty2:TypeId}{x y:Operand}{l m:List UInt8}(hx:Ag ρ x=St l)(hy:Ag ρ y=St m)(b:Bool)(hb:b=match op with | .eql=>decide (l=m) | _=>decide (l≠m))(hk:K (.bool b) w):Yk P K ((execOp (Ag ρ) ⟨d, .binOp op t x y ty2,ty,pos,af,gd⟩).run P w):=by
  refine Yk.value (v:= .bool b) (w' :=w) ?_ hk
  subst hb
  have hn:(!decide (l=m))=decide (l≠m):=by simp
  unfold execOp
  rcases hop with rfl | rfl
  · simp only[hx,hy,eqGuard,Go.binOp,Op.stringOp,P4,Sem.run_bind,Sem.run_pure]
    rfl
  · simp only[hx,hy,eqGuard,Go.binOp,Op.stringOp,P4,hn,Sem.run_bind,Sem.run_pure]
    rfl
theorem Yk.lenSt{t:TypeId}(ht:P.underlying t=some .string){x:Operand}{l:List UInt8}(hx:Ag ρ x=St l)(hk:K (NI l.length) w):Yk P K ((execOp (Ag ρ) ⟨d, .call ⟨.builtin .len,#[x],#[t]⟩,ty,pos,af,gd⟩).run P w):=by
  have hs:(⟨l.toArray⟩:ByteArray).size=l.length:=by show l.toArray.size=_;simp
  exact Yk.lenStr ht hx (by rw[hs];exact hk)
theorem Yk.extract{x:Operand}{vs:List Value}{i:Nat}{v:Value}(hx:Ag ρ x = .tuple vs.toArray)(hv:vs[i]? =some v)(hk:K v w):Yk P K ((execOp (Ag ρ) ⟨d, .extract x i,ty,pos,af,gd⟩).run P w):=by
  refine Yk.value (v:=v) (w' :=w) ?_ hk
  unfold execOp
  simp[hx,Instr.extract,hv]
theorem KA{x0 y0:Value}(h0:x0=y0): [x0]= [y0]:=by rw[h0]
theorem CZ{x0 x1 y0 y1:Value}(h0:x0=y0)(h1:x1=y1): [x0,x1]= [y0,y1]:=by rw[h0,h1]
theorem Yk.clo{f:FuncId}(hp:AI P f){c:Operand}{args:Array Operand}{at_:Array TypeId}{caps:Array Value}(hc:Ag ρ c = .func (.func f) #[] caps)(vs:Array Value)(hv:args.map (Ag ρ)++caps=vs) 
    (h:Calls P f vs w fun e w' =>∃v,e = .returned v∧K v w'):Yk P K ((execOp (Ag ρ) ⟨d, .call ⟨.value c,args,at_⟩,ty,pos,af,gd⟩).run P w):=by
  subst hv
  refine Yk.enter (f:=f) (args:=args.map (Ag ρ)++caps) (w' :=w) ?_ h
  unfold execOp
  simp[resolve,hc,Deferred.ofValue,invoke,hp _ w]
theorem Yk.mkFunc{f:Fn}{caps:Array Operand}{vs:Array Value}(hv:caps.map (Ag ρ)=vs)(hk:K (.func f #[] vs) w):Yk P K ((execOp (Ag ρ) ⟨d, .makeFunc f #[] caps,ty,pos,af,gd⟩).run P w):=by
  refine Yk.value (v:= .func f #[] vs) (w' :=w) ?_ hk
  unfold execOp
  simp[Instr.makeFunc,hv]
theorem Yk.eqBool{t ty2:TypeId}(ht:P.underlying t=some .bool){x y:Operand}{a b:Bool}(hx:Ag ρ x = .bool a)(hy:Ag ρ y = .bool b)(hk:K (.bool (a==b)) w):Yk P K ((execOp (Ag ρ) ⟨d, .binOp .eql t x y ty2,ty,pos,af,gd⟩).run P w):=by
  have hr:(Op.equal t (.bool a) (.bool b)).run P w = .ok (a==b) w:=by
    unfold Op.equal
    rw[show Op.maxDepth=(Op.maxDepth-1)+1 from rfl]
    simp[Op.equalIn,run_underlying ht,Sem.run_bind,Sem.run_pure]
  refine Yk.value (v:= .bool (a==b)) (w' :=w) ?_ hk
  unfold execOp
  simp[hx,hy,eqGuard,Go.binOp,hr]
end
theorem DZ{w:World}{b:Nat}{e:TypeId}{z n:Nat}{v:Value}{xs:List Value}(h:w.ownsRow b e z v n xs):v.cells = #[v]∧v.oneCell' =true:=by
  rcases h.2 with ⟨rfl,_⟩ | ⟨g,cap,cur,rfl,-⟩ <;> exact⟨rfl,rfl⟩
/-! ### Bits of numbers that are not below 0 -/
theorem GO(t:TypeId)(a b:Nat)(ha:a<256)(hb:b<256):Go.binOp .and t (.int .u8 (a:Int)) (.int .u8 (b:Int))=pure (.int .u8 ((a&&&b:Nat):Int)):=by
  unfold Go.binOp
  simp only[ne_eq,not_true_eq_false,if_false,Op.intBits,IntKind.bits,BitVec.ofInt_natCast]
  have h1:(BitVec.ofNat 8 a&&&BitVec.ofNat 8 b).toNat=a&&&b:=by
    rw[BitVec.toNat_and,BitVec.toNat_ofNat,BitVec.toNat_ofNat,Nat.mod_eq_of_lt (by omega),Nat.mod_eq_of_lt (by omega)]
  show pure (Value.int .u8 (IntKind.u8.wrap (((BitVec.ofNat 8 a&&&BitVec.ofNat 8 b).toNat:Nat):Int)))=_
  rw[h1,Ql _ (Nat.lt_of_le_of_lt Nat.and_le_left ha)]
open Go.RowKit
def RG{α:Type}(k:Nat)(enc:α→List Value)(w:World)(v:Value)(l:List α):Prop:=(∀x∈l,(enc x).length=k)∧Reads w k v l.length (l.flatMap enc)
def OG{α:Type}(base:Nat)(t:TypeId)(k:Nat)(enc:α→List Value)(w:World)(v:Value)(l:List α):Prop:=(∀x∈l,(enc x).length=k)∧w.ownsRow base t k v l.length (l.flatMap enc)
def PR(cs:List Value)(v:Value)(w:World):Prop:=∃b o,v = .pointer (some ⟨b,o,none⟩)∧w.rangeAt b o cs
section
variable {α : Type} {k base : Nat} {t : TypeId} {enc : α → List Value} {w w' : World} {v x : Value} {l : List α} {cs : List Value}
theorem RG.keep(h:RG k enc w v l)(e:Ext w w'):RG k enc w' v l:=⟨h.1,h.2.keep e⟩
theorem OG.keep(h:OG base t k enc w v l)(e:Ext w w'):OG base t k enc w' v l:=⟨h.1,Stab.own _ _ _ _ _ _ _ _ h.2 e⟩
theorem OG.kept{g:Nat}(h:OG base t k enc w v l)(e:w.grownBy w' (some g))(hne:v.ownBlock≠some g):OG base t k enc w' v l:=⟨h.1,Df h.2 e hne⟩
theorem RG.of(h:RG k enc w v l)(e:x=v):RG k enc w x l:=by rw[e];exact h
theorem OG.of(h:OG base t k enc w v l)(e:x=v):OG base t k enc w x l:=by rw[e];exact h
theorem PR.keep(h:PR cs v w)(e:Ext w w'):PR cs v w' :=by
  obtain⟨b,o,h1,h2⟩:=h
  exact⟨b,o,h1,fun j u hu=>Ext.cellX e (h2 j u hu)⟩
theorem PR.of(h:PR cs v w)(e:x=v):PR cs x w:=by rw[e];exact h
theorem RG.nil(k:Nat)(enc:α→List Value)(w:World):RG k enc w (.slice none 0 0) []:=⟨by simp,by simp,none,0,rfl,Nat.le_refl _,by simp[maxLen],fun _=>⟨rfl,rfl⟩,fun a h=>by cases h⟩
theorem OG.nil(base:Nat)(t:TypeId)(k:Nat)(enc:α→List Value)(w:World):OG base t k enc w (.slice none 0 0) []:=⟨by simp,World.ownsRow_nil w base t k⟩
theorem RG.one(h:RG k enc w v l):v.cells = #[v]∧v.oneCell' =true:=by
  obtain⟨-,-,ao,cap,rfl,-⟩:=h
  exact⟨rfl,rfl⟩
theorem RG.len(h:RG k enc w v l):∃ao c,v = .slice ao l.length c:=by
  obtain⟨-,-,ao,cap,rfl,-⟩:=h
  exact⟨ao,cap,rfl⟩
theorem RG.ofOwn(h:OG base t k enc w v l):RG k enc w v l:=by
  refine⟨h.1,h.2.1,?_⟩
  have h' :=h.2
  rcases h.2.2 with ⟨rfl,h0⟩ | ⟨g,cap,cur,rfl,hbg,hg,hnc,hcm,hcs,htake⟩
  · exact⟨none,0,by rw[h0],by omega,by simp[maxLen],fun _=>⟨h0,rfl⟩,fun a ha=>by cases ha⟩
  · exact⟨some ⟨g,0,none⟩,cap,rfl,hnc,hcm,(fun h=>by cases h),(fun a ha j u hu=>by cases ha;exact h'.cells rfl j u hu)⟩
theorem Gb(h:∀x∈l,(enc x).length=k):(l.flatMap enc).length=l.length*k:=by
  induction l with
  | nil=>simp
  | cons a r ih=>
    rw[List.flatMap_cons,List.length_append,ih (fun x hx=>h x (by simp[hx])),h a (by simp),List.length_cons,Nat.add_mul]
    omega
theorem H8(d:α):∀(l:List α),(∀x∈l,(enc x).length=k)→∀i,i<l.length→∀j u,(enc (l.getD i d))[j]? =some u→(l.flatMap enc)[i*k+j]? =some u
  | [],_,i,hi,_,_,_=>by simp at hi
  | a :: r,h,0,_,j,u,hu=>by
    have hj:=(List.getElem?_eq_some_iff.1 hu).1
    simp only[List.getD_cons_zero]at hu hj
    rw[List.flatMap_cons,Nat.zero_mul,Nat.zero_add,List.getElem?_append_left hj]
    exact hu
  | a :: r,h,i+1,hi,j,u,hu=>by
    simp only[List.getD_cons_succ]at hu
    have ih:=H8 d r (fun x hx=>h x (by simp[hx])) i (by simpa using hi) j u hu
    rw[List.flatMap_cons,List.getElem?_append_right (by rw[h a (by simp),Nat.add_mul];omega),h a (by simp)]
    rw[show(i+1)*k+j-k=i*k+j by rw[Nat.add_mul];omega]
    exact ih
theorem RG.rangeAt(d:α)(h:RG k enc w v l)(hk:0<k){i:Nat}(hi:i<l.length):∃b o c,v = .slice (some ⟨b,o,none⟩) l.length c∧w.rangeAt b (o+i*k) (enc (l.getD i d)):=by
  obtain⟨h1,h2,ao,cap,rfl,h3,h4,h5,h6⟩:=h
  cases ao with
  | none=>have:=(h5 rfl).1;omega
  | some a=>
    obtain⟨b,o,sp⟩:=a
    have hx:l.getD i d∈l:=by
      rw[List.getD_eq_getElem?_getD,List.getElem?_eq_getElem hi]
      exact List.getElem_mem hi
    have hc:∀j u,(enc (l.getD i d))[j]? =some u→w.cell? ((⟨b,o,sp⟩:Addr).add (i*k+j))=some u:=fun j u hu=>h6 _ rfl _ _ (H8 d l h1 i hi j u hu)
    have e:=h1 (l.getD 0 d) (by rw[List.getD_eq_getElem?_getD,List.getElem?_eq_getElem (by omega)];exact List.getElem_mem _)
    have h0:=h6 _ rfl _ _ (H8 d l h1 0 (by omega) 0 ((enc (l.getD 0 d))[0]'(by omega)) (by rw[List.getElem?_eq_getElem]))
    have hsp:sp=none:=by
      have:=World.cell?_spot h0
      simpa [Addr.add] using this
    subst hsp
    refine⟨b,o,cap,rfl,fun j u hu=> ?_⟩
    have:=hc j u hu
    rw[Addr.add_lit]at this
    rw[Nat.add_assoc]
    exact this
end
section
variable {P : Program} {K : Value → World → Prop} {ρ : Au} {w : World} {d : Option Tmp} {ty : TypeId} {pos : String} {af : Array Edge} {gd : Option (Nat × Bool)}
variable {α : Type} {k : Nat} {enc : α → List Value} {l : List α}
theorem Yk.atRG{t e:TypeId}(ht:P.underlying t=some (.slice e))(he:∀w' :World,(sizeOf e).run P w' = .ok k w')(a:0<k){x y:Operand}(dd:α)(h:RG k enc w (Ag ρ x) l){kd:IntKind}{i:Nat}(hy:Ag ρ y = .int kd (i:Int))(hi:i<l.length) 
    (hk:∀v,PR (enc (l.getD i dd)) v w→K v w):Yk P K ((execOp (Ag ρ) ⟨d, .indexAddr t x y,ty,pos,af,gd⟩).run P w):=by
  obtain⟨b,o,c,hv,hr⟩:=h.rangeAt dd a hi
  refine Yk.value (v:= .pointer (some ⟨b,o+i*k,none⟩)) (w' :=w) ?_ (hk _ ⟨b,_,rfl,hr⟩)
  have hE:P.elem t=e:=by simp[Program.elem,ht]
  have hr:=run_indexAt_slice (P:=P) w t ⟨b,o,none⟩ l.length c kd (i:Int) (by rw[hE];exact ht)
  rw[if_pos (by omega),hE,he]at hr
  unfold execOp
  simp only[hv,hy,Sem.run_bind,hr,Result.andThen_ok,Sem.run_pure]
  simp[Addr.add_lit]
theorem Yk.lenRG{t e:TypeId}(ht:P.underlying t=some (.slice e)){x:Operand}(h:RG k enc w (Ag ρ x) l)(hk:K (NI l.length) w):Yk P K ((execOp (Ag ρ) ⟨d, .call ⟨.builtin .len,#[x],#[t]⟩,ty,pos,af,gd⟩).run P w):=by
  obtain⟨ao,c,hv⟩:=h.len
  exact Yk.lenSl ht hv hk
theorem Yk.loadPR{t' :TypeId}{x:Operand}{cs:List Value}{de:TypeDesc}(h:PR cs (Ag ρ x) w)(hu:P.underlying t' =some de)(hd:de.isRow=true)(hi:(P.info? t').map (·.size)=some cs.length) 
    (hk:K (.agg cs.toArray) w):Yk P K ((execOp (Ag ρ) ⟨d, .load t' x,ty,pos,af,gd⟩).run P w):=by
  obtain⟨b,o,hx,hr⟩:=h
  exact Yk.loadPart hx hr hu hd hi hk
theorem Yk.fieldPR{s:TypeId}{f off n:Nat}(hf:Bm P s f off){x:Operand}{cs:List Value}(h:PR cs (Ag ρ x) w)(hk:∀v,PR ((cs.drop off).take n) v w→K v w):Yk P K ((execOp (Ag ρ) ⟨d, .fieldAddr s x f,ty,pos,af,gd⟩).run P w):=by
  obtain⟨b,o,hx,hr⟩:=h
  refine Yk.fieldAt hf hx (hk _ ⟨b,o+off,rfl,fun j v hv=> ?_⟩)
  rw[List.getElem?_take]at hv
  split at hv
  · rw[List.getElem?_drop]at hv
    have:=hr _ _ hv
    rw[←Nat.add_assoc]at this
    exact this
  · cases hv
theorem RG.src{tx e' :TypeId}(hk:P.underlying tx=some (.slice e')){v:Value}(h1:∀x∈l,∀u∈enc x,u.oneCell' =true)(h:RG k enc w v l):Src P k tx v l.length (l.flatMap enc) w:=by
  obtain⟨h0,h2,ao,cap,rfl,h3,h4,h5,h6⟩:=h
  cases ao with
  | none=>
    obtain⟨h7,rfl⟩:=h5 rfl
    have:l= []:=List.eq_nil_of_length_eq_zero h7
    subst this
    exact Src.ofNil w hk 0
  | some a=>exact Src.ofSlice w hk a _ cap _ h2 (h6 a rfl) (fun u hu=>by
      obtain⟨x,hx,hxu⟩:=List.mem_flatMap.1 hu
      exact h1 x hx u hxu)
theorem Yk.appendRG(s x:Operand){t tx e e' :TypeId}(base:Nat)(z:Value)(bytes:Nat)(ht:P.underlying t=some (.slice e))(hi:(P.info? e).map (fun i=>(i.zero,i.size,i.bytes))=some (some z,k,bytes))(hzs:z.cells.size=k)(hu:P.underlying tx=some (.slice e')) 
    (l m:List α) (hown:OG base e k enc w (Ag ρ s) l) (hsrc:RG k enc w (Ag ρ x) m) (h1:∀x∈m,∀u∈enc x,u.oneCell' =true) (hb:l.length+m.length≤281474976710656) (hbb:(l.length+m.length)*bytes≤140737488355328) (hbase:base≤w.heap.size)
    (h:∀v' w',OG base e k enc w' v' (l++m)→Grew w w' (Ag ρ s) v' →K v' w'):Yk P K ((execOp (Ag ρ) ⟨d, .call ⟨.builtin .append,#[s,x],#[t,tx]⟩,ty,pos,af,gd⟩).run P w):=
  Yk.append s x base e z k bytes ht hi hzs l.length (l.flatMap enc) hown.2 m.length (m.flatMap enc) (hsrc.src hu h1) (by unfold maxLen;omega) hbb hbase fun v' w' ho g=>h v' w' ⟨fun x hx=>(List.mem_append.1 hx).elim (hown.1 x) (hsrc.1 x),by rw[List.length_append,List.flatMap_append];exact ho⟩ g
theorem RG.single{w:World}{b:Nat}{x:α}{t:TypeId}{fr:Nat × Nat}(hl:(enc x).length=k)(hb:w.heap[b]? =some (.cells (enc x).toArray t fr)):RG k enc w (.slice (some ⟨b,0,none⟩) 1 1) [x]:=
  ⟨by simpa using hl,by simpa using hl,some ⟨b,0,none⟩,1,rfl,Nat.le_refl _,by simp[maxLen],(fun h=>by cases h),fun a ha j u hu=>by
    cases ha
    rw[Addr.add_lit,Nat.zero_add]
    exact Al hb (by simpa using hu)⟩
end
open Go.RowKit
theorem Ek:Tryz.prog.underlying 28=some (.slice 5):=by kernel_rfl
theorem Pm:Tryz.prog.underlying 9=some .string:=by kernel_rfl
theorem Ih:(Tryz.prog.info? 5).map (fun i=>(i.zero,i.size,i.bytes))=some (some (.int .u8 0),1,1):=by kernel_rfl

theorem I7(w:World)(v:Value)(l:List UInt8)(hr:RB w v l)(hl:l.length+16≤140737488355328):
    Calls Tryz.prog 38 #[v] w fun e w' =>∃v',e = .returned v' ∧NewB 5 w w' v' l:=by
  obtain⟨i0,hi,a,c,f⟩:=info_parts Ih
  have hsrc:∀w' :World,w.grownBy w' none→Src Tryz.prog 1 28 v l.length (Lib.byteCells l) w' :=fun w' hg=>
    (hr.below (B:=w.heap.size) ((Below.refl _ _).grown hg (Nat.le_refl _) (fun k hk=>by cases hk)) rfl).src Ek
  have HS:=Lib.hid hsrc
  clear hsrc
  obtain⟨h1,ao,cap,rfl,h2,h3,h4,h5⟩:=hr
  have h:l.length≤140737488355312:=by omega
  clear h1 h4 h5 hl
  unfold maxLen at h3
  go_enter Tryz.func38,Tryz.ntmps38
  go_wp2_with (at_make;refine wpList_make_own _ rfl _ _ 28 rfl w.heap.size 5 i0 (.int .u8 0) 1 Ek hi a c _ _ _ (l.length+16) rfl rfl (by omega) ?b1 ?b2 ?b3 ?_)
  case b1=>rw[f];omega
  case b2=>unfold maxLen;omega
  case b3=>exact Nat.le_refl _
  intro w1 hown hg
  have g:=HS.out w1 hg
  go_wp2_with (at_builtin;refine BX _ rfl _ _ 28 28 rfl w.heap.size 5 i0 (.int .u8 0) 1 1 Ek hi a c f rfl _ _ _ rfl hown _ _ _ rfl g ?c1 ?c2 ?c3 ?_)
  case c1=>unfold maxLen;omega
  case c2=>omega
  case c3=>exact hg.size
  intro v' i hown2 hgrow
  go_wp2
  go_ret
  refine⟨v',rfl,by simpa using hown2,Ab hg hgrow.by_ (fun b hb=> ?_)⟩
  simp[Value.ownBlock]at hb
  omega

set_option maxRecDepth 100000 in
set_option maxHeartbeats 1000000 in
theorem Ii(B n x:Nat)(hx:x<18446744073709551616)(sv:Value)(xs:List Value)(w:World)(hown:w.ownsRow B 5 1 sv n xs)(hBw:B≤w.heap.size)(hlim:n+10≤140737488355328):
    Calls Tryz.prog 37 #[sv, .int .u64 x] w fun e w' =>∃v',e = .returned v' ∧w'.ownsRow B 5 1 v' (n+(Lib.uvarint x).length) (xs++Lib.byteCells (Lib.uvarint x))∧Grew w w' sv v' :=by
  obtain⟨i0,hi,a,b,c⟩:=info_parts Ih
  have hlen:=Lib.uvarint_length64 hx
  go_enter Tryz.func37,Tryz.ntmps37
  go_wp2
  go_loopw [0,1] (fun vb vx wr=>∃(y:Nat) (pre:List UInt8),vx = .int .u64 y∧y≤x∧Lib.uvarint x=pre++Lib.uvarint y∧wr.ownsRow B 5 1 vb (n+pre.length) (xs++Lib.byteCells pre)∧Grew w wr sv vb)
    (fun _ vx _=>(intOf vx).toNat)
  case atStart=>exact⟨x,[],rfl,Nat.le_refl _,rfl,by simpa [Lib.byteCells] using hown,Grew.refl _ _⟩
  case round=>
    obtain⟨y,pre,rfl,hy,hsplit,hown1,hnx⟩:=hrel
    have hpl:pre.length+(Lib.uvarint y).length≤10:=by
      have h2:=congrArg List.length hsplit
      rw[List.length_append]at h2
      omega
    have hyp:=Lib.uvarint_pos y
    have hbw:=hnx.by_.size
    by_cases h128:128≤y
    · have hor:bits .or .u8 ((y:Int)%256) 128=((y%128+128:Nat):Int):=by
        rw[Lib.u8_or128_any _ (by omega) (by omega)]
        omega
      go_wp2_with (at_builtin;refine BX _ rfl _ _ 28 28 rfl B 5 i0 (.int .u8 0) 1 1 Ek hi a b c rfl _ _ _ rfl (hown1.alloc _) (.slice (some ⟨wr.heap.size,0,none⟩) 1 1) 1 [_] rfl (Ig Ek wr _ _ rfl) ?c1 ?c2 ?c3 ?_)
      case c1=>unfold maxLen;omega
      case c2=>omega
      case c3=>simp;omega
      intro v' w1 hown' hgrow
      have hnx1:Grew w w1 sv v' :=(hnx.alloc _).trans hgrow
      go_wp2
      go_roundw
      case rel=>
        refine⟨y/128,pre++ [(y%128+128).toUInt8],by go_num,by omega,by rw[hsplit,Lib.uvarint_big h128];simp,?_,hnx1⟩
        have ec:((y%128+128:Nat):Int)=(y:Int)%128+128:=by omega
        rw[Lib.byteCells_snoc pre (by omega),List.length_append,List.length_singleton,←Nat.add_assoc,ec]
        exact hown'
      case measure=>simp[intOf];omega
    · have hsm:Lib.uvarint y= [y.toUInt8]:=Lib.uvarint_small (by omega)
      go_wp2_with (at_builtin;refine BX _ rfl _ _ 28 28 rfl B 5 i0 (.int .u8 0) 1 1 Ek hi a b c rfl _ _ _ rfl (hown1.alloc _) (.slice (some ⟨wr.heap.size,0,none⟩) 1 1) 1 [_] rfl (Ig Ek wr _ _ rfl) ?d1 ?d2 ?d3 ?_)
      case d1=>unfold maxLen;omega
      case d2=>omega
      case d3=>simp;omega
      intro v' w1 hown' hgrow
      have hnx1:Grew w w1 sv v' :=(hnx.alloc _).trans hgrow
      go_wp2
      go_ret
      refine⟨v',rfl,?_,hnx1⟩
      rw[hsplit,hsm,Lib.byteCells_snoc pre (by omega),List.length_append,List.length_singleton,←Nat.add_assoc]
      exact hown'

theorem DN(n:Nat)(h:n<9223372036854775808):(Lib.uvarint n).length≤9:=Lib.uvarint_length 8 n (Nat.lt_of_lt_of_le h (by decide))

theorem Qm(w:World)(v:Value)(l:List UInt8)(hr:RB w v l)(hl:l.length+16≤140737488355328)(n:Nat)(hn:n≤9223372036854775807):
    Calls Tryz.prog 15 #[v, .int .i64 n] w fun e w' =>∃v',e = .returned (.tuple #[v', .int .i64 0])∧NewB 5 w w' v' (l++Lib.uvarint n):=by
  go_enter Tryz.func15,Tryz.ntmps15
  go_wp2_with fail
  refine(I7 _ _ l hr hl).mono ?_
  rintro e w1 ⟨a,rfl,h1⟩
  go_wp2_with fail
  refine(Ii w.heap.size l.length n (by omega) a _ w1 h1.own h1.by_.size (by omega)).mono ?_
  rintro e c ⟨b,rfl,ho,g⟩
  go_wp2_with fail
  go_ret2
  exact⟨b,rfl,h1.more g ho⟩

set_option maxRecDepth 100000 in
set_option maxHeartbeats 1000000 in
theorem DO(w:World)(x:Nat)(hx:x≤9223372036854775807):
    Calls Tryz.prog 43 #[.int .i64 x] w fun e w' =>∃v',e = .returned v' ∧NewB 5 w w' v' (Lib.uvarint x):=by
  obtain⟨i0,hi,a,c,f⟩:=info_parts Ih
  have hlen:=DN x (by omega)
  go_enter Tryz.func43,Tryz.ntmps43
  go_wp2
  go_loopw [0,3] (fun vx vb wr=>∃(y:Nat) (pre:List UInt8),vx = .int .i64 y∧y≤x∧Lib.uvarint x=pre++Lib.uvarint y∧NewB 5 w wr vb pre)
    (fun vx _ _=>(intOf vx).toNat)
  case atStart=>exact⟨x,[],rfl,Nat.le_refl _,rfl,World.ownsRow_nil _ _ _ _,World.grownBy.refl _ _⟩
  case round=>
    obtain⟨y,pre,rfl,hy,hsplit,hown1⟩:=hrel
    have hpl:pre.length+(Lib.uvarint y).length≤9:=by
      have h2:=congrArg List.length hsplit
      rw[List.length_append]at h2
      omega
    have hyp:=Lib.uvarint_pos y
    have hbw:=hown1.by_.size
    by_cases h128:128≤y
    · go_wp2_with (at_builtin;refine BX _ rfl _ _ 28 28 rfl w.heap.size 5 i0 (.int .u8 0) 1 1 Ek hi a c f rfl _ _ _ rfl (hown1.own.alloc _) (.slice (some ⟨wr.heap.size,0,none⟩) 1 1) 1 [_] rfl (Ig Ek wr _ _ rfl) ?c1 ?c2 ?c3 ?_)
      case c1=>unfold maxLen;omega
      case c2=>omega
      case c3=>simp;omega
      intro v' w1 hown' hgrow
      have hnx1:NewB 5 w w1 v' (pre++ [(y%128+128).toUInt8]):=by
        refine NewB.more (l' := [(y%128+128).toUInt8]) ⟨hown1.own.alloc _,Ab hown1.by_ (World.grownBy_alloc _ _ none) (fun b hb=>by cases hb)⟩ hgrow ?_
        have ec:(128+(y:Int)%128)=((y%128+128:Nat):Int):=by omega
        rw[ec]at hown'
        rw[←Lib.byteCells_append,Lib.byteCells_snoc pre (by omega)]
        exact hown'
      go_wp2
      go_roundw
      case rel=>
        exact⟨y/128,pre++ [(y%128+128).toUInt8],by go_num,by omega,by rw[hsplit,Lib.uvarint_big h128];simp,hnx1⟩
      case measure=>simp[intOf];omega
    · have hsm:Lib.uvarint y= [y.toUInt8]:=Lib.uvarint_small (by omega)
      go_wp2_with (at_builtin;refine BX _ rfl _ _ 28 28 rfl w.heap.size 5 i0 (.int .u8 0) 1 1 Ek hi a c f rfl _ _ _ rfl (hown1.own.alloc _) (.slice (some ⟨wr.heap.size,0,none⟩) 1 1) 1 [_] rfl (Ig Ek wr _ _ rfl) ?d1 ?d2 ?d3 ?_)
      case d1=>unfold maxLen;omega
      case d2=>omega
      case d3=>simp;omega
      intro v' w1 hown' hgrow
      have hnx1:NewB 5 w w1 v' (pre++ [y.toUInt8]):=by
        refine NewB.more (l' := [y.toUInt8]) ⟨hown1.own.alloc _,Ab hown1.by_ (World.grownBy_alloc _ _ none) (fun b hb=>by cases hb)⟩ hgrow ?_
        rw[←Lib.byteCells_append,Lib.byteCells_snoc pre (by omega)]
        exact hown'
      go_wp2
      go_ret
      exact⟨v',rfl,by rw[hsplit,hsm];exact hnx1⟩

open Go.RowKit
set_option maxRecDepth 100000
abbrev Bs:=List UInt8
abbrev BS:= { l:List UInt8 // l.length=32 }
def zid:BS:=⟨List.replicate 32 0,rfl⟩
theorem KQ{l:List UInt8}{r:List Value}(h:l.length=32){k:Nat}:(Lib.byteCells l++r)[32+k]? =r[k]? :=by
  rw[List.getElem?_append_right (by rw[Lib.byteCells_length,h];omega),Lib.byteCells_length,h,Nat.add_sub_cancel_left]
theorem MC{l:List UInt8}{r:List Value}{v:Value}(h:l.length=32){k:Nat}:(Lib.byteCells l++r).set (32+k) v=Lib.byteCells l++r.set k v:=by
  rw[List.set_append_right _ _ (by rw[Lib.byteCells_length,h];omega),Lib.byteCells_length,h,Nat.add_sub_cancel_left]
theorem MD{l:List Value}{n:Nat}{v:Value}(h:l[n]? =some v):(l.drop n).take 1= [v]:=by
  obtain⟨hn,e⟩:=List.getElem?_eq_some_iff.1 h
  rw[List.drop_eq_getElem_cons hn,e]
  rfl
theorem No{w:World}{g o:Nat}{a z:List Value}{l:List UInt8}{t:TypeId}{fr:Nat × Nat}(hb:w.heap[g]? =some (.cells (a++Lib.byteCells l++z).toArray t fr))(ha:a.length=o):w.rangeAt g o (Lib.byteCells l):=fun j u hu=>by
  refine Al hb ?_
  have hj:=(List.getElem?_eq_some_iff.1 hu).1
  rw[List.append_assoc,List.getElem?_append_right (by omega),ha,Nat.add_sub_cancel_left,List.getElem?_append_left hj]
  exact hu
theorem AC{P:Program}{t:TypeId}{k:Nat}{l:List Value}(hl:l.length=k)(hi:(P.info? t).map (·.size)=some k):(P.info? t).map (·.size)=some l.toArray.size:=by rw[List.size_toArray,hl];exact hi
theorem PR.blk{w:World}{g o:Nat}{cs a z:List Value}{l:List UInt8}{t:TypeId}{fr:Nat × Nat}{v:Value}(hb:w.heap[g]? =some (.cells cs.toArray t fr))(hm:cs=a++Lib.byteCells l++z)(hn:a.length=o)(hv:v = .pointer (some ⟨g,o,none⟩)):PR (Lib.byteCells l) v w:=⟨g,o,hv,No (by rw[←hm];exact hb) hn⟩
theorem PR.pcell{c v:Value}{w:World}(h:PR [c] v w):PCell c v w:=by
  obtain⟨b,o,rfl,h⟩:=h
  exact⟨_,rfl,h 0 c rfl⟩
theorem Fc{α:Type}{l:List α}(h:l.length=32):∃(a0 a1 a2 a3 a4 a5 a6 a7 a8 a9 a10 a11 a12 a13 a14 a15 a16 a17 a18 a19 a20 a21 a22 a23 a24 a25 a26 a27 a28 a29 a30 a31:α),l= [a0,a1,a2,a3,a4,a5,a6,a7,a8,a9,a10,a11,a12,a13,a14,a15,a16,a17,a18,a19,a20,a21,a22,a23,a24,a25,a26,a27,a28,a29,a30,a31]:=by
  match l,h with
  | [a0,a1,a2,a3,a4,a5,a6,a7,a8,a9,a10,a11,a12,a13,a14,a15,a16,a17,a18,a19,a20,a21,a22,a23,a24,a25,a26,a27,a28,a29,a30,a31],_=>exact⟨a0,a1,a2,a3,a4,a5,a6,a7,a8,a9,a10,a11,a12,a13,a14,a15,a16,a17,a18,a19,a20,a21,a22,a23,a24,a25,a26,a27,a28,a29,a30,a31,rfl⟩
theorem BK{l m:List UInt8}(h:l.length=32)(h2:m.length=32):(Lib.byteCells l).toArray.size=(Lib.byteCells m).toArray.size:=by rw[List.size_toArray,List.size_toArray,Lib.byteCells_length,Lib.byteCells_length,h,h2]
section
variable {P : Program} {K : Value → World → Prop} {ρ : Au} {w : World} {d : Option Tmp} {ty : TypeId} {pos : String} {af : Array Edge} {gd : Option (Nat × Bool)}
theorem Yk.ltSt{op:BinOp}(hop:op = .lss∨op = .geq){t ty2:TypeId}{x y:Operand}{l m:List UInt8}(hx:Ag ρ x=St l)(hy:Ag ρ y=St m)(b:Bool)(hb:b=match op with | .lss=>Op.bytesLess l m | _=> !(Op.bytesLess l m))(hk:K (.bool b) w):Yk P K ((execOp (Ag ρ) ⟨d, .binOp op t x y ty2,ty,pos,af,gd⟩).run P w):=by
  refine Yk.value (v:= .bool b) (w' :=w) ?_ hk
  subst hb
  unfold execOp
  rcases hop with rfl | rfl
  · simp only[hx,hy,eqGuard,Go.binOp,Op.stringOp,El,Sem.run_bind,Sem.run_pure]
    rfl
  · simp only[hx,hy,eqGuard,Go.binOp,Op.stringOp,El,Sem.run_bind,Sem.run_pure]
    rfl
theorem Yk.storeMid{t' :TypeId}{x y:Operand}{g o:Nat}{a m z cells:List Value}{t:TypeId}(hx:Ag ρ x = .pointer (some ⟨g,o,none⟩))(hy:Ag ρ y = .agg cells.toArray)(hg:w.heap[g]? =some (.cells (a++m++z).toArray t (0,0)))(ha:a.length=o)(hm:m.length=cells.length)(hi:(P.info? t').map (·.size)=some cells.length)(h1:∀v∈cells,v.oneCell' =true) 
    (hk:∀w',w'.heap[g]? =some (.cells (a++cells++z).toArray t (0,0))→w.grownBy w' (some g)→w'.heap.size=w.heap.size→K undef w'):Yk P K ((execOp (Ag ρ) ⟨d, .store t' x y,ty,pos,af,gd⟩).run P w):=by
  have hst:=run_storeCells_at P g o t cells 0 (a++m++z).toArray w hg (by simp;omega) h1
  have e:((a++m++z).toArray.toList.take (o+0)++cells++(a++m++z).toArray.toList.drop (o+0+cells.length))=a++cells++z:=by
    have b:(a++m++z).take o=a:=by rw[List.append_assoc,←ha,List.take_left'];rfl
    have c:(a++m++z).drop (o+cells.length)=z:=List.drop_left' (by rw[List.length_append];omega)
    rw[List.toList_toArray,Nat.add_zero,b,c]
  rw[e]at hst
  have hr:(Instr.storeAt t' (.pointer (some ⟨g,o,none⟩)) (.agg cells.toArray)).run P w = .ok () (w.setRow g (a++cells++z).toArray):=by
    cases hq:P.info? t' with
    | none=>simp[hq]at hi
    | some i=>
      have hsz:cells.length=i.size:=by simp[hq]at hi;omega
      simp[Instr.storeAt,Instr.sureAddr,storeVar,sizeOf,typeInfo,hq,Value.cells,hsz]at hst ⊢
      simp[hst]
  unfold execOp
  simp only[hx,hy,hr,Sem.run_bind,Result.andThen_ok,Sem.run_pure]
  exact hk _ (setRow_heap w g (a++m++z).toArray _ t (0,0) hg) ⟨rfl,rfl,rfl,by simp,fun k _ hk=>setRow_other w g k _ (fun e=>hk (by rw[e]))⟩ (by simp)
end
open Go.RowKit
set_option maxRecDepth 100000
set_option linter.unusedVariables false
set_option linter.unusedSimpArgs false
structure Ba where
  kind:UInt8
  name:Bs
  old:BS
  new:BS
def updC(x:Ba):List Value:=B8 (x.kind) :: St (x.name) :: (Lib.byteCells x.old.1++(Lib.byteCells x.new.1))
theorem BT(x:Ba):(updC x).length=66:=by simp[updC,Lib.byteCells_length,(x.old).2,(x.new).2]
theorem Mj{x:Ba}:∀u∈updC x,u.oneCell' =true:=by
  intro u hu
  simp only[updC,List.mem_cons,List.mem_append,List.not_mem_nil,or_false]at hu
  rcases hu with rfl | rfl | hu | hu
  · rfl
  · rfl
  · exact Ay _ u hu
  · exact Ay _ u hu
theorem Fd(x:Ba):(updC x)[0]? =some (B8 (x.kind)):=by
  rfl
theorem DI(x:Ba):(updC x)[1]? =some (St (x.name)):=by
  rfl
theorem QX(x:Ba):((updC x).drop 1).take 1= [St (x.name)]:=by
  exact MD (DI x)
def Ij(x:Ba):List Value:=B8 (x.kind) :: St (x.name) :: []
def Np(x:Ba):List Value:=Lib.byteCells x.new.1
theorem Fe(x:Ba):updC x=Ij x++Lib.byteCells x.old.1++Np x:=by simp[updC,Ij,Np]
theorem Ff(x:Ba):(Ij x).length=2:=by simp[Ij,Lib.byteCells_length]
def Ik(x:Ba):List Value:=B8 (x.kind) :: St (x.name) :: Lib.byteCells x.old.1
def Nq(x:Ba):List Value:= []
theorem Dk(x:Ba):updC x=Ik x++Lib.byteCells x.new.1++Nq x:=by simp[updC,Ik,Nq]
theorem Dl(x:Ba):(Ik x).length=34:=by simp[Ik,Lib.byteCells_length,(x.old).2]
structure AM where
  kind:UInt8
  name:Bs
  old:BS
  new:BS
  note:Bs
def entC(x:AM):List Value:=B8 (x.kind) :: St (x.name) :: (Lib.byteCells x.old.1++(Lib.byteCells x.new.1++(St (x.note) :: [])))
theorem Bp(x:AM):(entC x).length=67:=by simp[entC,Lib.byteCells_length,(x.old).2,(x.new).2]
theorem C7{x:AM}:∀u∈entC x,u.oneCell' =true:=by
  intro u hu
  simp only[entC,List.mem_cons,List.mem_append,List.not_mem_nil,or_false]at hu
  rcases hu with rfl | rfl | hu | hu | rfl
  · rfl
  · rfl
  · exact Ay _ u hu
  · exact Ay _ u hu
  · rfl
theorem GP(x:AM):(entC x)[0]? =some (B8 (x.kind)):=by
  rfl
theorem Nr(x:AM)(v:UInt8):(entC x).set 0 (B8 (v))=entC ({ x with kind:=v }):=by
  rfl
theorem Il(x:AM):(entC x)[1]? =some (St (x.name)):=by
  rfl
theorem KR(x:AM)(v:Bs):(entC x).set 1 (St (v))=entC ({ x with name:=v }):=by
  rfl
def Ew(x:AM):List Value:=B8 (x.kind) :: St (x.name) :: []
def FT(x:AM):List Value:=Lib.byteCells x.new.1++(St (x.note) :: [])
theorem FU(x:AM):entC x=Ew x++Lib.byteCells x.old.1++FT x:=by simp[entC,Ew,FT]
theorem GQ(x:AM):(Ew x).length=2:=by simp[Ew,Lib.byteCells_length]
theorem KS(x:AM)(v:BS):Ew x++Lib.byteCells v.1++FT x=entC ({ x with old:=v }):=(FU ({ x with old:=v })).symm
def Ex(x:AM):List Value:=B8 (x.kind) :: St (x.name) :: Lib.byteCells x.old.1
def FV(x:AM):List Value:=St (x.note) :: []
theorem FW(x:AM):entC x=Ex x++Lib.byteCells x.new.1++FV x:=by simp[entC,Ex,FV]
theorem GR(x:AM):(Ex x).length=34:=by simp[Ex,Lib.byteCells_length,(x.old).2]
theorem KT(x:AM)(v:BS):Ex x++Lib.byteCells v.1++FV x=entC ({ x with new:=v }):=(FW ({ x with new:=v })).symm
theorem Fg(x:AM):(entC x)[66]? =some (St (x.note)):=by
  unfold entC
  show(Lib.byteCells x.old.1++_)[32+32]? =_
  rw[KQ x.old.2]
  show(Lib.byteCells x.new.1++_)[32+0]? =_
  rw[KQ x.new.2]
  rfl
theorem KU(x:AM)(v:Bs):(entC x).set 66 (St (v))=entC ({ x with note:=v }):=by
  unfold entC
  refine congrArg (List.cons _) ?_
  refine congrArg (List.cons _) ?_
  show(Lib.byteCells x.old.1++_).set (32+32) _=_
  rw[MC x.old.2]
  refine congrArg (Lib.byteCells x.old.1 ++ ·) ?_
  show(Lib.byteCells x.new.1++_).set (32+0) _=_
  rw[MC x.new.2]
  refine congrArg (Lib.byteCells x.new.1 ++ ·) ?_
  rfl
theorem QY(x:AM):((entC x).drop 66).take 1= [St (x.note)]:=by
  exact MD (Fg x)
structure AK where
  name:Bs
  id:BS
def nmdC(x:AK):List Value:=St (x.name) :: Lib.byteCells x.id.1
theorem Bq(x:AK):(nmdC x).length=33:=by simp[nmdC,Lib.byteCells_length,(x.id).2]
theorem CL{x:AK}:∀u∈nmdC x,u.oneCell' =true:=by
  intro u hu
  simp only[nmdC,List.mem_cons,List.mem_append,List.not_mem_nil,or_false]at hu
  rcases hu with rfl | hu
  · rfl
  · exact Ay _ u hu
theorem Ed(x:AK):(nmdC x)[0]? =some (St (x.name)):=by
  rfl
theorem DJ(x:AK):((nmdC x).drop 0).take 1= [St (x.name)]:=by
  exact MD (Ed x)
def Im(x:AK):List Value:=St (x.name) :: []
def Ns(x:AK):List Value:= []
theorem FX(x:AK):nmdC x=Im x++Lib.byteCells x.id.1++Ns x:=by simp[nmdC,Im,Ns]
theorem FY(x:AK):(Im x).length=1:=by simp[Im,Lib.byteCells_length]
theorem Ee(x:AK):((nmdC x).drop 1).take 32=Lib.byteCells x.id.1:=by
  rw[FX,List.append_assoc,←FY x,List.drop_left,List.take_left' (by rw[Lib.byteCells_length,x.id.2])]
structure A0 where
  branches:List AK
  tags:List AK
  head:Bs
  at_:BS
  log:List AM
structure Ru where
  branches:Value
  tags:Value
  log:Value
abbrev Ah:=A0 × Ru
def refsC(x:Ah):List Value:=x.2.branches :: x.2.tags :: St (x.1.head) :: (Lib.byteCells x.1.at_.1++(x.2.log :: []))
theorem Ao(x:Ah):(refsC x).length=36:=by simp[refsC,Lib.byteCells_length,(x.1.at_).2]
theorem Br{x:Ah}(h0:x.2.branches.oneCell' =true)(h1:x.2.tags.oneCell' =true)(h2:x.2.log.oneCell' =true):∀u∈refsC x,u.oneCell' =true:=by
  intro u hu
  simp only[refsC,List.mem_cons,List.mem_append,List.not_mem_nil,or_false]at hu
  rcases hu with rfl | rfl | rfl | hu | rfl
  · exact h0
  · exact h1
  · rfl
  · exact Ay _ u hu
  · exact h2
theorem BN(x:Ah):(refsC x)[0]? =some (x.2.branches):=by
  rfl
theorem E2(x:Ah)(v:Value)(l:List AK):(refsC x).set 0 (v)=refsC (({ x.1 with branches:=l },{ x.2 with branches:=v })):=by
  rfl
theorem B6(x:Ah):(refsC x)[1]? =some (x.2.tags):=by
  rfl
theorem E3(x:Ah)(v:Value)(l:List AK):(refsC x).set 1 (v)=refsC (({ x.1 with tags:=l },{ x.2 with tags:=v })):=by
  rfl
theorem Cq(x:Ah):(refsC x)[2]? =some (St (x.1.head)):=by
  rfl
theorem FZ(x:Ah)(v:Bs):(refsC x).set 2 (St (v))=refsC (({ x.1 with head:=v },x.2)):=by
  rfl
def Dq(x:Ah):List Value:=x.2.branches :: x.2.tags :: St (x.1.head) :: []
def D0(x:Ah):List Value:=x.2.log :: []
theorem B7(x:Ah):refsC x=Dq x++Lib.byteCells x.1.at_.1++D0 x:=by simp[refsC,Dq,D0]
theorem Cm(x:Ah):(Dq x).length=3:=by simp[Dq,Lib.byteCells_length]
theorem F0(x:Ah)(v:BS):Dq x++Lib.byteCells v.1++D0 x=refsC (({ x.1 with at_:=v },x.2)):=(B7 (({ x.1 with at_:=v },x.2))).symm
theorem Bn(x:Ah):(refsC x)[35]? =some (x.2.log):=by
  unfold refsC
  show(Lib.byteCells x.1.at_.1++_)[32+0]? =_
  rw[KQ x.1.at_.2]
  rfl
theorem D1(x:Ah)(v:Value)(l:List AM):(refsC x).set 35 (v)=refsC (({ x.1 with log:=l },{ x.2 with log:=v })):=by
  unfold refsC
  refine congrArg (List.cons _) ?_
  refine congrArg (List.cons _) ?_
  refine congrArg (List.cons _) ?_
  show(Lib.byteCells x.1.at_.1++_).set (32+0) _=_
  rw[MC x.1.at_.2]
  refine congrArg (Lib.byteCells x.1.at_.1 ++ ·) ?_
  rfl
structure Rd where
  b:Bs
  at_:Int
structure RT where
  b:Value
abbrev D2:=Rd × RT
def Bz(x:D2):List Value:=x.2.b :: .int .i64 (x.1.at_) :: []
theorem Ey(x:D2):(Bz x).length=2:=by simp[Bz,Lib.byteCells_length]
theorem Dt(x:D2):(Bz x)[0]? =some (x.2.b):=by
  rfl
theorem Dg(x:D2):(Bz x)[1]? =some (.int .i64 (x.1.at_)):=by
  rfl
theorem Fu(x:D2)(v:Int):(Bz x).set 1 (.int .i64 (v))=Bz (({ x.1 with at_:=v },x.2)):=by
  rfl
structure RU where
  b:Bs
  at_:Int
  ok:Bool
structure RM where
  b:Value
abbrev CH:=RU × RM
def AQ(x:CH):List Value:=x.2.b :: .int .i64 (x.1.at_) :: .bool (x.1.ok) :: []
theorem Cz(x:CH):(AQ x).length=3:=by simp[AQ,Lib.byteCells_length]
theorem Dm(x:CH):(AQ x)[0]? =some (x.2.b):=by
  rfl
theorem Cg(x:CH):(AQ x)[1]? =some (.int .i64 (x.1.at_)):=by
  rfl
theorem In(x:CH)(v:Int):(AQ x).set 1 (.int .i64 (v))=AQ (({ x.1 with at_:=v },x.2)):=by
  rfl
theorem CC(x:CH):(AQ x)[2]? =some (.bool (x.1.ok)):=by
  rfl
theorem DK(x:CH)(v:Bool):(AQ x).set 2 (.bool (v))=AQ (({ x.1 with ok:=v },x.2)):=by
  rfl
abbrev A8:Ba:=⟨0,[],zid,zid⟩
abbrev Ad:AM:=⟨0,[],zid,zid,[]⟩
abbrev dNmd:AK:=⟨[],zid⟩
open Go.ChangeShapes Go.WideShapes Go.ChangeAt Go.RowKit Go.Deep
section
variable {H : Type} (enc : TypeId × Value → H) (P : Program) (W : World)
def Opn{α:Type}(t:TypeId)(f:α→List Value)(OK:α→Prop):Prop:=
  ∀fuel cs (x:DataW H × List MemPlace),DataW.trod enc P W 0 (fun _=>true) true fuel t cs=some x→∃a,cs=f a∧OK a
end
section
variable {H : Type} {enc : TypeId × Value → H} {P : Program} {W : World}
theorem Opn.u8{t:TypeId}(ht:P.underlying t=some (.int .u8)):Opn enc P W t (fun b:UInt8=> [B8 b]) (fun _=>True):=fun fuel cs x h=>by
  obtain⟨n,rfl,-,hw⟩:=DataW.trod_int ht h
  have hb:0≤n∧n≤255:=by simpa [Lit.wf,IntKind.min,IntKind.max,IntKind.signed,IntKind.bits] using hw
  refine⟨UInt8.ofNat n.toNat,?_,trivial⟩
  congr 2
  simp
  omega
theorem Opn.str{t:TypeId}(ht:P.underlying t=some .string):Opn enc P W t (fun l:Bs=> [St l]) (fun _=>True):=fun fuel cs x h=>by
  obtain⟨s,rfl,-,-⟩:=DataW.trod_string ht h
  exact⟨s.data.toList,by simp,trivial⟩
theorem Opn.strL{t:TypeId}(ht:P.underlying t=some .string):Opn enc P W t (fun l:Bs=> [St l]) (fun l=>l.length≤9223372036854775807):=fun fuel cs x h=>by
  obtain⟨s,rfl,-,hs⟩:=DataW.trod_string ht h
  refine⟨s.data.toList,by simp,?_⟩
  have:s.data.size≤9223372036854775807:=Nat.le_trans hs (by decide)
  simpa using this
theorem Opn.id{t e:TypeId}(ht:P.underlying t=some (.array 32 e))(he:P.underlying e=some (.int .u8))(hc:P.cellsOf e=1)(hn:P.cellsOf t=32):Opn enc P W t (fun b:BS=>Lib.byteCells b.1) (fun _=>True):=fun fuel cs x h=>by
  obtain⟨l,hl,rfl⟩:=Ph ht he hc hn h
  exact⟨⟨l,hl⟩,rfl,trivial⟩
theorem Jr{α:Type}{k:Nat}{f:α→List Value}(d:α):∀(l:List α),(∀x∈l,(f x).length=k)→∀i r,r<k→i<l.length→(l.flatMap f)[i*k+r]? =(f (l.getD i d))[r]?
  | [],_,i,r,_,hi=>by cases hi
  | a :: l,h,0,r,hr,_=>by
    rw[List.flatMap_cons,Nat.zero_mul,Nat.zero_add,List.getElem?_append_left (by rw[h a (by simp)];exact hr)]
    rfl
  | a :: l,h,i+1,r,hr,hi=>by
    have ha:=h a (by simp)
    rw[List.flatMap_cons,List.getElem?_append_right (by rw[ha,Nat.add_mul];omega),ha,show(i+1)*k+r-k=i*k+r by rw[Nat.add_mul];omega]
    exact Jr d l (fun x hx=>h x (by simp[hx])) i r hr (by simpa using hi)
theorem GS{α:Type}{k:Nat}{f:α→List Value}:∀(l:List α),(∀x∈l,(f x).length=k)→(l.flatMap f).length=l.length*k
  | [],_=>by simp
  | a :: l,h=>by rw[List.flatMap_cons,List.length_append,h a (by simp),GS l (fun x hx=>h x (by simp[hx])),List.length_cons,Nat.add_mul];omega
theorem Opn.slice{α:Type}[Inhabited α]{k:Nat}{f:α→List Value}{OK:α→Prop}{t e:TypeId}(ht:P.underlying t=some (.slice e))(hc:P.cellsOf e=k)(hk:0<k)(hE:Opn enc P W e f OK)(hl:∀a,OK a→(f a).length=k):
    Opn enc P W t (fun v:Value × List α=> [v.1]) (fun v=>RG k f W v.1 v.2∧∀a∈v.2,OK a):=fun fuel cs x h=>by
  rcases open_slice ht h with ⟨rfl,-⟩ | ⟨a,len,cap,m,n,D,Pl,rfl,-,h1,h2,h3,-,h4⟩
  · exact⟨(_,[]),rfl,RG.nil _ _ _,fun a ha=>by cases ha⟩
  · have hm:m=cap:=by simpa using h3
    obtain⟨L,hL⟩:=choose_lt (α:=α) (p:=fun i q=>W.cells? 0 (a.add (i*k)) k=some (f q)∧OK q) (fun i (hi:i<len)=>by
      obtain⟨cs',c1,c2⟩:=h4 i (by omega)
      obtain⟨q,rfl,hq⟩:=hE _ _ _ c2
      rw[hc]at c1
      exact⟨q,c1,hq⟩)
    have hall:∀x∈(List.range len).map L,(f x).length=k∧OK x:=fun x hx=>by
      obtain⟨i,hi,rfl⟩:=List.mem_map.1 hx
      have:=hL i (by simpa using hi)
      exact⟨hl _ this.2,this.2⟩
    have hlen:((List.range len).map L).length=len:=by simp
    refine⟨(.slice (some a) len cap,(List.range len).map L),rfl,⟨fun x hx=>(hall x hx).1,by rw[GS _ (fun x hx=>(hall x hx).1)],some a,cap,by rw[hlen],by rw[hlen];exact h1,h2,(fun h=>by cases h),fun a' ha j u hu=> ?_⟩,fun x hx=>(hall x hx).2⟩
    cases ha
    have hj:j<len*k:=by
      have:=(List.getElem?_eq_some_iff.1 hu).1
      rwa [GS _ (fun x hx=>(hall x hx).1),hlen]at this
    have hi:j/k<len:=Nat.div_lt_of_lt_mul (by rw[Nat.mul_comm];exact hj)
    have hr:j%k<k:=Nat.mod_lt _ hk
    have hjk:j/k*k+j%k=j:=by rw[Nat.mul_comm];exact Nat.div_add_mod j k
    rw[←hjk,Jr default _ (fun x hx=>(hall x hx).1) _ _ hr (by rw[hlen];exact hi)]at hu
    have hg:((List.range len).map L).getD (j/k) default=L (j/k):=by
      rw[List.getD_eq_getElem?_getD,List.getElem?_map,List.getElem?_range hi];rfl
    rw[hg]at hu
    obtain⟨-,-,hcell⟩:=World.cells?_some (hL _ hi).1
    have:=hcell (j%k) hr
    rw[E9,hjk,hu]at this
    exact this
theorem RV{cs m:List Value}{o k:Nat}(h:(cs.drop o).take k=m):cs.drop o=m++cs.drop (o+k):=by
  rw[←h,←List.drop_drop,List.take_append_drop]
theorem BU{t ty:TypeId}{i o k fuel:Nat}{cs:List Value}{x:DataW H × List MemPlace}{α:Type}{f:α→List Value}{OK:α→Prop}(ht:P.underlying t=some (.struct (P.fieldsOf t)))(h:DataW.trod enc P W 0 (fun _=>true) true fuel t cs=some x) 
    (hf:((P.fieldsOf t)[i]?).map (fun f=>(f.type,f.offset))=some (ty,o)) (hk:P.cellsOf ty=k) (hE:Opn enc P W ty f OK):∃a,cs.drop o=f a++cs.drop (o+k)∧OK a:=by
  obtain⟨xs,n,-,-,-,hl,hx⟩:=DataW.trod_struct ht h
  obtain⟨g,hg,he⟩:=Option.map_eq_some_iff.1 hf
  have h1:=hx i g hg
  cases he
  have hi:i<xs.length:=by rw[hl];exact(Array.getElem?_eq_some_iff.1 hg).1
  rw[List.getElem?_eq_getElem hi,hk]at h1
  obtain⟨a,h2,h3⟩:=hE _ _ _ h1
  exact⟨a,RV h2,h3⟩
theorem EO{t:TypeId}{fuel:Nat}{cs:List Value}{x:DataW H × List MemPlace}(ht:P.underlying t=some (.struct (P.fieldsOf t)))(h:DataW.trod enc P W 0 (fun _=>true) true fuel t cs=some x):cs.length=P.cellsOf t:=by
  obtain⟨xs,n,-,-,hl,-,-⟩:=DataW.trod_struct ht h
  exact hl
end
open Go.RowKit
theorem C3(n:Nat)(h:n<2147483648):IntKind.i32.wrap (n:Int)=(n:Int):=IntWalk.i32_in _ ⟨by omega,by omega⟩
theorem QZ(t:TypeId)(a b:Nat)(ha:a<2147483648)(hb:b<2147483648):Go.binOp .or t (.int .i32 (a:Int)) (.int .i32 (b:Int))=pure (.int .i32 ((a|||b:Nat):Int)):=by
  unfold Go.binOp
  simp only[ne_eq,not_true_eq_false,if_false,Op.intBits,IntKind.bits,BitVec.ofInt_natCast]
  have h1:(BitVec.ofNat 32 a|||BitVec.ofNat 32 b).toNat=a|||b:=by
    rw[BitVec.toNat_or,BitVec.toNat_ofNat,BitVec.toNat_ofNat,Nat.mod_eq_of_lt (by omega),Nat.mod_eq_of_lt (by omega)]
  show pure (Value.int .i32 (IntKind.i32.wrap (((BitVec.ofNat 32 a|||BitVec.ofNat 32 b).toNat:Nat):Int)))=_
  rw[h1,C3 _ (Nat.or_lt_two_pow (n:=31) ha hb)]
theorem Qn(t:TypeId)(a:Nat)(j:IntKind)(n:Nat)(hn:n<32)(h:a*2^n<2147483648):Go.binOp .shl t (.int .i32 (a:Int)) (.int j (n:Int))=pure (.int .i32 ((a*2^n:Nat):Int)):=by
  unfold Go.binOp
  simp only[Op.shift,IntKind.bits]
  rw[if_neg (by omega),Int.toNat_natCast,Nat.min_eq_left (by omega)]
  have:(a:Int)*2^n=((a*2^n:Nat):Int):=by simp
  rw[this,C3 _ h]
/-! ### A string, rune by rune -/
theorem Io{w:World}{g p:Nat}{s:ByteArray}(h:w.heap[g]? =some (.stringIter s p)):w.iterPos g=p:=by simp[World.iterPos,h]
theorem Ip(l:List UInt8):(⟨l.toArray⟩:ByteArray).size=l.length:=by show l.toArray.size=_;simp
theorem Qo(s:ByteArray)(p:Nat)(h:p<s.size):1≤(Utf8.decode s p).2:=by
  by_cases hc:(s[p]'h).toNat<128
  · rw[decode_ascii s p h hc];exact Nat.le_refl 1
  · exact(decode_high s p h (by omega)).2
section
variable {P : Program} {K : Value → World → Prop} {ρ : Au} {w : World} {d : Option Tmp} {ty : TypeId} {pos : String} {af : Array Edge} {gd : Option (Nat × Bool)}
theorem Yk.rangeSt{t:TypeId}(ht:P.underlying t=some .string){x:Operand}{l:List UInt8}(hx:Ag ρ x=St l) 
    (hk:∀n w',w.heap.size=n→w'.heap[n]? =some (.stringIter ⟨l.toArray⟩ 0)→Ext w w' →w'.heap.size=n+1→K (.pointer (some ⟨n,0,none⟩)) w'):Yk P K ((execOp (Ag ρ) ⟨d, .range t x,ty,pos,af,gd⟩).run P w):=by
  have hr:(execOp (Ag ρ) ⟨d, .range t x,ty,pos,af,gd⟩).run P w = .ok (.value (.pointer (some ⟨w.heap.size,0,none⟩))) (w.iter ⟨l.toArray⟩ 0):=by
    unfold execOp
    simp only[hx,Sem.run_bind,show(Instr.range t (St l)).run P w=_ from run_range_string w t _ ht,Result.andThen_ok,Sem.run_pure]
  rw[hr]
  exact hk _ _ rfl (World.iter_heap _ _ _) ((Below.refl _ _).alloc (Nat.le_refl _) _) (by simp[World.iter])
theorem Yk.nextSt{x:Operand}{g:Nat}{l:List UInt8}{p:Nat}(hx:Ag ρ x = .pointer (some ⟨g,0,none⟩))(hg:w.heap[g]? =some (.stringIter ⟨l.toArray⟩ p))(hp:p<l.length) 
    (hk:∀q r w',p<q→w'.heap[g]? =some (.stringIter ⟨l.toArray⟩ q)→w.grownBy w' (some g)→w'.heap.size=w.heap.size→K (.tuple #[.bool true,NI p, .int .i32 ((r:Nat):Int)]) w'):Yk P K ((execOp (Ag ρ) ⟨d, .next x true,ty,pos,af,gd⟩).run P w):=by
  have hlt:p<(⟨l.toArray⟩:ByteArray).size:=by rw[Ip];exact hp
  have hr:(Instr.next (.pointer (some ⟨g,0,none⟩)) true ty).run P w = .ok (.tuple #[.bool true,NI p, .int .i32 ((Utf8.decode ⟨l.toArray⟩ p).1:Nat)]) { w with heap:=w.heap.setIfInBounds g (.stringIter ⟨l.toArray⟩ (p+(Utf8.decode ⟨l.toArray⟩ p).2)) } :=by
    simp only[Instr.next,getObj,setObj,Sem.run_bind,Sem.run,hg,Result.andThen,hlt,if_true]
    simp[goInt,NI]
  unfold execOp
  simp only[hx,hr,Sem.run_bind,Result.andThen_ok,Sem.run_pure]
  have hb:=(Array.getElem?_eq_some_iff.1 hg).1
  refine hk _ _ _ (Nat.lt_add_of_pos_right (Qo _ _ hlt)) ?_ ⟨rfl,rfl,rfl,by simp,fun k _ hk=> ?_⟩ (by simp)
  · simp[hb]
  · exact Array.getElem?_setIfInBounds_ne (fun e=>hk (by rw[e]))
theorem Yk.nextEnd{x:Operand}{g:Nat}{l:List UInt8}{p:Nat}(hx:Ag ρ x = .pointer (some ⟨g,0,none⟩))(hg:w.heap[g]? =some (.stringIter ⟨l.toArray⟩ p))(hp:¬p<l.length) 
    (hk:K (.tuple #[.bool false]) w):Yk P K ((execOp (Ag ρ) ⟨d, .next x true,ty,pos,af,gd⟩).run P w):=by
  have hlt:¬p<(⟨l.toArray⟩:ByteArray).size:=by rw[Ip];exact hp
  have hr:(Instr.next (.pointer (some ⟨g,0,none⟩)) true ty).run P w = .ok (.tuple #[.bool false]) w:=by
    simp[Instr.next,getObj,Sem.run,hg,hlt]
  unfold execOp
  simp only[hx,hr,Sem.run_bind,Result.andThen_ok,Sem.run_pure]
  exact hk
end
/-! ### Is it a text? -/
def B0(c:UInt8):Option (Nat × Nat × Nat):=
  if c.toNat<128 then some (0,c.toNat,0)else if 192≤c.toNat∧c.toNat<224 then some (1,c.toNat&&&31,128)
  else if 224≤c.toNat∧c.toNat<240 then some (2,c.toNat&&&15,2048)else if 240≤c.toNat∧c.toNat<248 then some (3,c.toNat&&&7,65536)else none
def C0(l:List UInt8)(p:Nat):Nat→Nat→Option Nat
  | 0,r=>some r
  | k+1,r=>if(l.getD p 0).toNat&&&192≠128 then none else C0 l (p+1) k (r*2^6|||((l.getD p 0).toNat&&&63))
def Dh(r:Nat):Bool:=(decide (0≤r)&&decide (r≤1114111))&&(decide (r<55296)||decide (57343<r))
def CU(l:List UInt8)(a:Nat):Option Nat:=
  match B0 (l.getD a 0)with
  | none=>none
  | some (n,r,m)=>if l.length-a≤n then none else
    match C0 l (a+1) n r with
    | none=>none
    | some q=>if m≤q∧Dh q=true then some (a+n+1)else none
def Rv(o:Option (Nat × Nat × Nat)):Value:=match o with
  | none=> .tuple #[.int .i64 (-1), .int .i32 0, .int .i32 0]
  | some (n,r,m)=> .tuple #[NI n, .int .i32 (r:Int), .int .i32 (m:Int)]
theorem Nt{l:List UInt8}{p i n q:Nat}(hi:i<n)(h:(l.getD (p+i) 0).toNat&&&192≠128):C0 l (p+i) (n-i) q=none:=by
  rw[show n-i=(n-i-1)+1 by omega];exact if_pos h
theorem ME{l:List UInt8}{p i n q:Nat}(hi:i<n)(h:(l.getD (p+i) 0).toNat&&&192=128):C0 l (p+i) (n-i) q=C0 l (p+(i+1)) (n-(i+1)) (q*2^6|||((l.getD (p+i) 0).toNat&&&63)):=by
  rw[show n-i=(n-(i+1))+1 by omega];exact if_neg (fun e=>e h)
theorem LQ{q i c:Nat}(h:q<2^(7+6*i)):q*2^6|||(c&&&63)<2^(7+6*(i+1)):=by
  refine Nat.or_lt_two_pow ?_ (Nat.lt_of_le_of_lt Nat.and_le_right ?_)
  · rw[show 7+6*(i+1)=(7+6*i)+6 by omega,Nat.pow_add];exact Nat.mul_lt_mul_of_pos_right h (by decide)
  · exact Nat.lt_of_lt_of_le (show 63<2^7 by decide) (Nat.pow_le_pow_right (by decide) (by omega))
theorem HH{q i n:Nat}(h:q<2^(7+6*i))(hi:i<n)(hn:n≤3):q*2^6<2147483648:=by
  have:2^(7+6*i)≤2^19:=Nat.pow_le_pow_right (by decide) (by omega)
  omega
theorem P5(c:Nat):c&&&63<2147483648:=Nat.lt_of_le_of_lt Nat.and_le_right (by decide)
theorem Nu{l:List UInt8}{a:Nat}(h:B0 (l.getD a 0)=none):CU l a=none:=by unfold CU;rw[h]
theorem MF{l:List UInt8}{a n r m:Nat}(h:B0 (l.getD a 0)=some (n,r,m))(hs:l.length-a≤n):CU l a=none:=by unfold CU;rw[h];exact if_pos hs
theorem Pn{l:List UInt8}{a n r m:Nat}(h:B0 (l.getD a 0)=some (n,r,m))(ht:C0 l (a+1) n r=none):CU l a=none:=by
  unfold CU;rw[h];simp only[ht];exact ite_self _
theorem Qp{l:List UInt8}{a n r m q:Nat}(h:B0 (l.getD a 0)=some (n,r,m))(hs:¬l.length-a≤n)(ht:C0 l (a+1) n r=some q):CU l a=if(decide (m≤q)&&Dh q)=true then some (a+n+1)else none:=by
  unfold CU;rw[h];simp only[ht,if_neg hs,Bool.and_eq_true,decide_eq_true_eq]
theorem I8{l:List UInt8}{a b:Nat}(h:CU l a=some b):a<b∧b≤l.length:=by
  unfold CU at h
  split at h
  · cases h
  · split at h
    · cases h
    · split at h
      · cases h
      · split at h
        · cases h;omega
        · cases h
def CI(l:List UInt8)(a:Nat):Bool:=
  if a<l.length then
    match _h:CU l a with
    | none=>false
    | some b=>CI l b
  else true
termination_by l.length-a
decreasing_by have:=I8 (by assumption);omega
theorem Gc{l:List UInt8}{a:Nat}(h:¬a<l.length):CI l a=true:=by rw[CI,if_neg h]
theorem Js{l:List UInt8}{a:Nat}(ha:a<l.length)(h:CU l a=none):CI l a=false:=by
  rw[CI,if_pos ha];split
  · rfl
  · rename_i h2;rw[h]at h2;cases h2
theorem GT{l:List UInt8}{a b:Nat}(ha:a<l.length)(h:CU l a=some b):CI l a=CI l b:=by
  rw[CI,if_pos ha];split
  · rename_i h2;rw[h]at h2;cases h2
  · rename_i h2;rw[h]at h2;cases h2;rfl
def BL(l:List UInt8):Bool:=decide (l.length≤256)&&CI l 0
theorem Iq{c:UInt8}{n r m:Nat}(h:B0 c=some (n,r,m)):n≤3∧r<2^7∧(0<n→r<2^5)∧m≤65536:=by
  have hm:c.toNat&&&31≤31∧c.toNat&&&15≤15∧c.toNat&&&7≤7:=⟨Nat.and_le_right,Nat.and_le_right,Nat.and_le_right⟩
  unfold B0 at h
  split at h
  · cases h;omega
  · split at h
    · cases h;omega
    · split at h
      · cases h;omega
      · split at h
        · cases h;omega
        · cases h
open Go.RowKit
theorem Ak{G:Bool}{v x:Value}(hx:x=cond G v undef)(h:G=true):x=v:=by rw[hx,h];rfl
theorem Bk{G:Bool}{v:Value}(h:G=true):v=cond G v undef:=by rw[h];rfl
theorem Bl{G:Bool}{v:Value}(h:G=false):undef=cond G v undef:=by rw[h];rfl
theorem Jt{G:Bool}{p:Prop}(h:G=false)(k:G=true):p:=by rw[h]at k;cases k
theorem Stab.may{R:World→World→Prop}{f:Bv}{p:Prop}(h:Stab R f):Stab R (fun x w=>p→f x w):=fun x w w' k r e=>h x w w' (k e) r
theorem Du{a b:Bool}(h:a=true)(k:b=true):(a&&b)=true:=by rw[h,k];rfl
theorem Bb{a:Bool}(h:a=false):(!a)=true:=by rw[h];rfl
theorem P6{a:Bool}(h:(!a)=false):a=true:=by revert h;cases a <;> simp
theorem gA(a b:Bool):((a&&b)=true)=(a=true∧b=true):=propext (Bool.and_eq_true_iff)
theorem gB(a:Bool):((!a)=true)=(a=false):=propext (by cases a <;> simp)
theorem gC(a b:Bool):((a||b)=false)=(a=false∧b=false):=propext Bool.or_eq_false_iff
theorem gD(p:Prop)[Decidable p]:(decide p=true)=p:=propext decide_eq_true_iff
theorem gE(p:Prop)[Decidable p]:(decide p=false)=¬p:=propext decide_eq_false_iff_not
theorem P7{a:Bool}(h:(!a)=true):a=false:=by revert h;cases a <;> simp
theorem gT{x:Value}{c:Bool}(h:x = .bool c):c=true↔x = .bool true:=by
  subst h
  exact⟨fun h=>by rw[h],fun h=>by injection h⟩
theorem gF{x:Value}{c:Bool}(h:x = .bool c):(!c)=true↔x = .bool false:=by
  subst h
  cases c <;> simp
theorem Cc{x:Value}{E c:Bool}(h:x=cond E (.bool c) undef):(E&&c)=true↔x = .bool true:=by
  subst h
  cases E <;> cases c <;> simp[undef]
theorem D3{x:Value}{E c:Bool}(h:x=cond E (.bool c) undef):(E&& !c)=true↔x = .bool false:=by
  subst h
  cases E <;> cases c <;> simp[undef]
theorem MG{o:Oper}{ops:Array Oper}{T:Array Value}{g d:Nat}{want:Bool}(hgd:o.guard=some (g,want))(hg:(ops[g]?).bind (·.dst)=some d)(h:T.getD d undef ≠ .bool want):Region.wanted o (yielded ops T)=false:=by
  simp only[Region.wanted,hgd,yielded,hg]
  rw[Array.getD_eq_getD_getElem?]at h
  cases hx:T[d]? with
  | none=>simp[hx]
  | some x=>
    rw[hx]at h
    cases x <;> simp[hx]
    rename_i b
    intro hb
    exact h (by simp[hb])
section
variable {P : Program} {n : Nat} {Q : Ce} {ρ : Au} {w : World} {K : Value → World → Prop} {d : Option Tmp} {ty : TypeId} {pos : String} {af : Array Edge} {gd : Option (Nat × Bool)}
theorem Yk.mono{K' :Value→World→Prop}{r:Result Next}(h:Yk P K r)(hk:∀v w,K v w→K' v w):Yk P K' r:=by
  match r,h with
  | .ok (.value v) w,h=>exact hk _ _ h
  | .ok .skip w,h=>exact hk _ _ h
  | .ok (.enter f args) w,h=>exact Calls.mono h (fun e w ⟨v,a,h⟩=>⟨v,a,hk _ _ h⟩)
theorem GU{ops:Array Oper}{rest:List Oper}{dst:Option Tmp}{op:Op}{g:Nat}{want:Bool}{t:Tmp}{G:Bool}(R:Value→World→Prop)(hd:(match dst with | some d=>Nat.blt d n | none=>true)=true)(hg:(ops[g]?).bind (·.dst)=some t)(hG:G=true↔ρ t = .bool want) 
    (h1:G=true→Yk P R ((execOp (Ag ρ) ⟨dst,op,ty,pos,af,some (g,want)⟩).run P w))
    (h2:∀x w',(G=true→R x w')→(G=false→x=undef∧w' =w)→Cn P ops n Q rest (BC ρ dst x) w'):Cn P ops n Q (⟨dst,op,ty,pos,af,some (g,want)⟩ :: rest) ρ w:=by
  cases hb:G with
  | true=>
    refine oY hd hg (hG.1 hb) (Yk.mono (h1 hb) ?_)
    intro x w' h
    exact h2 x w' (fun _=>h) (fun e=>by rw[hb]at e;cases e)
  | false=>
    intro a ha
    have hdn:∀t,dst=some t→t<n:=fun t ht=>by subst ht;exact Nat.le_of_ble_eq_true hd
    have hw:Region.wanted ⟨dst,op,ty,pos,af,some (g,want)⟩ (yielded ops a.tmps)=false:=MG rfl hg (fun e=>by
      have:=hG.2 ((ha.get t).symm.trans e)
      rw[hb]at this
      cases this)
    refine wpList_step fun K hK=> ?_
    rw[if_neg (by rw[hw];simp)]
    exact hK _ _ (h2 undef w (fun e=>by rw[hb]at e;cases e) (fun _=>⟨rfl,rfl⟩) _ (ha.put dst hdn undef))
theorem Ac{ops:Array Oper}{rest:List Oper}{dst:Option Tmp}{op:Op}{g:Nat}{want:Bool}{t:Tmp}{G:Bool}(v:Value)(hd:(match dst with | some d=>Nat.blt d n | none=>true)=true)(hg:(ops[g]?).bind (·.dst)=some t)(hG:G=true↔ρ t = .bool want) 
    (h1:G=true→Yk P (fun x w' =>x=v∧w' =w) ((execOp (Ag ρ) ⟨dst,op,ty,pos,af,some (g,want)⟩).run P w))
    (h2:Cn P ops n Q rest (BC ρ dst (cond G v undef)) w):Cn P ops n Q (⟨dst,op,ty,pos,af,some (g,want)⟩ :: rest) ρ w:=by
  refine GU _ hd hg hG h1 fun x w' k1 k2=> ?_
  cases hb:G with
  | true=>obtain⟨rfl,rfl⟩:=k1 hb;rw[hb]at h2;exact h2
  | false=>obtain⟨rfl,rfl⟩:=k2 hb;rw[hb]at h2;exact h2
theorem BF{ops:Array Oper}{rest:List Oper}{dst:Option Tmp}{op:Op}{g:Nat}{want:Bool}{t:Tmp}{G:Bool}(v:Value)(hd:(match dst with | some d=>Nat.blt d n | none=>true)=true)(hg:(ops[g]?).bind (·.dst)=some t)(hG:G=true↔ρ t = .bool want) 
    (h1:G=true→Yk P (fun x w' =>x=v∧Ext w w') ((execOp (Ag ρ) ⟨dst,op,ty,pos,af,some (g,want)⟩).run P w))
    (h2:∀w',Ext w w' →Cn P ops n Q rest (BC ρ dst (cond G v undef)) w'):Cn P ops n Q (⟨dst,op,ty,pos,af,some (g,want)⟩ :: rest) ρ w:=by
  refine GU _ hd hg hG h1 fun x w' k1 k2=> ?_
  cases hb:G with
  | true=>obtain⟨rfl,h⟩:=k1 hb;have:=h2 _ h;rw[hb]at this;exact this
  | false=>obtain⟨rfl,rfl⟩:=k2 hb;have:=h2 _ (Ext.refl _);rw[hb]at this;exact this
theorem GV{ops:Array Oper}{rest:List Oper}{dst:Option Tmp}{op:Op}{g:Nat}{want:Bool}{t:Tmp}{G:Bool}(R:Value→Prop)(hd:(match dst with | some d=>Nat.blt d n | none=>true)=true)(hg:(ops[g]?).bind (·.dst)=some t)(hG:G=true↔ρ t = .bool want) 
    (h1:G=true→Yk P (fun x w' =>R x∧w' =w) ((execOp (Ag ρ) ⟨dst,op,ty,pos,af,some (g,want)⟩).run P w))
    (h2:∀x,(G=true→R x)→Cn P ops n Q rest (BC ρ dst x) w):Cn P ops n Q (⟨dst,op,ty,pos,af,some (g,want)⟩ :: rest) ρ w:=by
  refine GU _ hd hg hG h1 fun x w' k1 k2=> ?_
  have e:w' =w:=by
    cases hb:G with
    | true=>exact(k1 hb).2
    | false=>exact(k2 hb).2
  subst e
  exact h2 x (fun h=>(k1 h).1)
theorem Yk.pickAnd{c x y:Operand}{a b:Bool}(hc:Ag ρ c = .bool a)(hx:a=true→Ag ρ x = .bool b)(hy:Ag ρ y = .bool false)(hk:K (.bool (a&&b)) w):Yk P K ((execOp (Ag ρ) ⟨d, .pick c x y,ty,pos,af,gd⟩).run P w):=by
  cases a with
  | true=>exact Yk.pickT hc (hx rfl) hk
  | false=>exact Yk.pickF hc hy hk
theorem Yk.pickOr{c x y:Operand}{a b:Bool}(hc:Ag ρ c = .bool a)(hx:Ag ρ x = .bool true)(hy:a=false→Ag ρ y = .bool b)(hk:K (.bool (a||b)) w):Yk P K ((execOp (Ag ρ) ⟨d, .pick c x y,ty,pos,af,gd⟩).run P w):=by
  cases a with
  | true=>exact Yk.pickT hc hx hk
  | false=>exact Yk.pickF hc (hy rfl) hk
theorem Yk.pickAndN{c x y:Operand}{a b:Bool}(hc:Ag ρ c = .bool a)(hx:a=true→Ag ρ x = .bool b)(hy:Ag ρ y = .bool false)(hk:∀r,r=(a&&b)→K (.bool r) w):Yk P K ((execOp (Ag ρ) ⟨d, .pick c x y,ty,pos,af,gd⟩).run P w):=Yk.pickAnd hc hx hy (hk _ rfl)
theorem Yk.pickOrN{c x y:Operand}{a b:Bool}(hc:Ag ρ c = .bool a)(hx:Ag ρ x = .bool true)(hy:a=false→Ag ρ y = .bool b)(hk:∀r,r=(a||b)→K (.bool r) w):Yk P K ((execOp (Ag ρ) ⟨d, .pick c x y,ty,pos,af,gd⟩).run P w):=Yk.pickOr hc hx hy (hk _ rfl)
theorem Cv{ops:Array Oper}{rest:List Oper}{dst:Option Tmp}{op:Op}{g:Nat}{want:Bool}{t:Tmp}{G:Bool}(e:Bool)(hd:(match dst with | some d=>Nat.blt d n | none=>true)=true)(hg:(ops[g]?).bind (·.dst)=some t)(hG:G=true↔ρ t = .bool want) 
    (h1:G=true→Yk P (fun x w' =>x = .bool e∧w' =w) ((execOp (Ag ρ) ⟨dst,op,ty,pos,af,some (g,want)⟩).run P w))
    (h2:∀b,b=e→Cn P ops n Q rest (BC ρ dst (cond G (.bool b) undef)) w):Cn P ops n Q (⟨dst,op,ty,pos,af,some (g,want)⟩ :: rest) ρ w:=Ac (.bool e) hd hg hG h1 (h2 _ rfl)
variable {l : List Oper} {Φ : Nat → Bv}
theorem AY{C:Nat→World→Prop}{R:Nat→World→World→Prop}{k:Nat}{o:Oper}(g:Nat)(want:Bool)(t:Tmp){G:Bool}(hg:o.guard=some (g,want))(hd:(l[g]?).bind (·.dst)=some t) 
    (hv:∀x w,Ft l Φ ρ k t x w→(G=true↔x = .bool want)) (hu:G=false→∀w,Φ k undef w)
    (h:G=true→∀σ w,C k w→(∀t∈o.looksAt l.toArray,Ft l Φ ρ k t (σ t) w)→Yk P (fun v w' =>R k w w' ∧Φ k v w') ((execOp (Ag σ) o).run P w)):DB P l C R Φ ρ k o:=by
  intro σ w hC hl
  have hin:t∈o.looksAt l.toArray:=by
    unfold Oper.looksAt
    refine List.mem_append_right _ ?_
    rw[hg]
    simp[hd]
  have hq:=hv _ _ (hl t hin)
  cases hb:G with
  | true=>
    have:Cl l o σ=true:=by
      unfold Cl
      rw[hg]
      simp only[hd,hq.1 hb]
      simp
    rw[if_pos this]
    exact h hb σ w hC hl
  | false=>
    have:Cl l o σ=false:=by
      unfold Cl
      rw[hg]
      simp only[hd]
      cases hx:σ t <;> simp
      rename_i b
      intro e
      have:=hq.2 (by rw[hx,e])
      rw[hb]at this
      cases this
    rw[if_neg (by rw[this];simp)]
    exact hu hb w
end
def AT(k:Nat):List UInt8→Option (Nat × Nat)
  | []=>none
  | c :: r=>if 128≤c.toNat then(if 8≤k then none else(AT (k+1) r).map (fun x=>(c.toNat-128+128*x.1,x.2+1)))
      else if c.toNat=0∧0<k then none else some (c.toNat,1)
theorem EP:∀(l:List UInt8) (k:Nat) (x:Nat × Nat),AT k l=some x→1≤x.2∧x.2≤l.length∧x.2+k≤max 9 (k+1)
  | [],k,x,h=>by simp[AT]at h
  | c :: r,k,x,h=>by
    unfold AT at h
    split at h
    · split at h
      · cases h
      · obtain⟨y,hy,rfl⟩:=Option.map_eq_some_iff.1 h
        have:=EP r (k+1) y hy
        simp
        omega
    · split at h
      · cases h
      · cases h;simp;omega
theorem GW:∀(l:List UInt8) (k:Nat) (x:Nat × Nat),AT k l=some x→x.1<128^x.2
  | [],k,x,h=>by simp[AT]at h
  | c :: r,k,x,h=>by
    unfold AT at h
    split at h
    · split at h
      · cases h
      · obtain⟨y,hy,rfl⟩:=Option.map_eq_some_iff.1 h
        have:=GW r (k+1) y hy
        have hc:=c.toNat_lt
        simp only[Nat.pow_succ]
        omega
    · split at h
      · cases h
      · cases h;simp;omega
open Go.RowKit
theorem MH:∀w' :World,(sizeOf 5).run Tryz.prog w' = .ok 1 w' :=fun _=>by kernel_rfl
def Dn(a:Nat):Option (Nat × Nat)→Value
  | some x=> .tuple #[.int .i64 x.1, .int .i64 ↑(a+x.2), .int .i64 0]
  | none=> .tuple #[.int .i64 0, .int .i64 0, .int .i64 6]

theorem Gd(y k:Nat)(hy:y<128)(hk:k≤8):IntKind.u64.wrap ((y:Int)*2^(7*k))=((y*2^(7*k):Nat):Int):=by
  have h1:y*2^(7*k)≤127*2^56:=Nat.mul_le_mul (by omega) (Nat.pow_le_pow_right (by decide) (by omega))
  have e:((y:Int)*2^(7*k))=((y*2^(7*k):Nat):Int):=by push_cast;rfl
  rw[e]
  exact IntWalk.u64_in _ ⟨by omega,by omega⟩
theorem KV(out y k:Nat)(hout:out<2^(7*k))(hy:y<128)(hk:k≤8):bits .or .u64 (out:Int) ((y*2^(7*k):Nat):Int)=((out+2^(7*k)*y:Nat):Int):=by
  have h1:y*2^(7*k)≤127*2^56:=Nat.mul_le_mul (by omega) (Nat.pow_le_pow_right (by decide) (by omega))
  have h2:2^(7*k)≤2^56:=Nat.pow_le_pow_right (by decide) (by omega)
  have h:=(bits_nat .u64 64 (by decide) wraps_u64 out (y*2^(7*k)) (by omega) (by omega)).2
  rw[h]
  congr 1
  have h3:=Nat.shiftLeft_add_eq_or_of_lt hout y
  rw[Nat.shiftLeft_eq]at h3
  rw[Nat.or_comm,←h3,Nat.mul_comm]
  omega
set_option maxRecDepth 100000 in
theorem MI:∀n:Fin 128,bits .andNot .u8 ((n.val+128:Nat):Int) 128=(n.val:Int):=by decide+kernel
theorem KW(c:Nat)(h:128≤c)(h2:c<256):IntKind.u64.wrap (bits .andNot .u8 (c:Int) 128)=((c-128:Nat):Int):=by
  have h1:=MI ⟨c-128,by omega⟩
  have e:c-128+128=c:=by omega
  simp only[e]at h1
  rw[h1]
  exact IntWalk.u64_in _ ⟨by omega,by omega⟩

theorem KX(out y k:Nat)(hout:out<2^(7*k))(hy:y<128)(hk:k≤8):out+2^(7*k)*y≤9223372036854775807:=by
  have h1:2^(7*k)*y≤2^56*127:=Nat.mul_le_mul (Nat.pow_le_pow_right (by decide) (by omega)) (by omega)
  have h2:2^(7*k)≤2^56:=Nat.pow_le_pow_right (by decide) (by omega)
  omega
theorem Nv(a k N c:Nat)(h:N+2^(7*k)*c≤9223372036854775807):
    Ending.returned (.tuple #[.int .i64 (wrap64 ((N+2^(7*k)*c:Nat):Int)), .int .i64 ((a:Int)+(k:Int)+1), .int .i64 0]) = .returned (Dn a ((some (c,1)).map fun x=>(N+2^(7*k)*x.1,x.2+k))):=by
  rw[IntWalk.wrap64_in _ ⟨by omega,by omega⟩]
  have e:(a:Int)+(k:Int)+1=((a+(1+k):Nat):Int):=by omega
  rw[e]
  rfl

set_option maxRecDepth 100000 in
set_option maxHeartbeats 1000000 in
theorem Ir(w:World)(v:Value)(l:List UInt8)(hr:RB w v l)(a:Nat)(ha:a≤l.length):
    Calls Tryz.prog 68 #[v, .int .i64 a] w fun e w' =>e = .returned (Dn a (AT 0 (l.drop a)))∧w=w' :=by
  have HR:=Lib.hid hr
  obtain⟨ao,cap,rfl,h2,h3⟩:=hr.len
  clear hr
  have hd:decide ((a:Int)<0)=false:=by simp
  have hd2:decide (l.length<a)=false:=by simp;omega
  obtain⟨L,hL⟩:∃L,L=l.drop a:=⟨_,rfl⟩
  have hLn:l.length-a=L.length:=by rw[hL,List.length_drop]
  rw[←hL]
  have HLn:=Lib.hid hLn
  have HL:=Lib.hid hL
  clear hLn hL
  go_enter Tryz.func68,Tryz.ntmps68
  go_wp2_with fail
  go_step3
  go_wp2_with fail
  go_step3
  go_wp2_with (refine FS (o:=⟨some 21,_,_,_,_,_⟩) rfl _ _ (some _) none rfl Ek MH _ l rfl HR.out a l.length ha (Nat.le_refl _) (.inr ⟨.i64,rfl⟩) (.inl ⟨rfl,rfl⟩) ?_)
  intro ao' c' hr'
  rw[List.take_of_length_le (by rw[List.length_drop];exact Nat.le_refl _)]at hr'
  have HR' :=Lib.hid hr'
  clear hr' hd hd2
  rw[←HL.out,HLn.out]at HR'
  rw[HLn.out]
  by_cases g:L.length=0
  · have hL0:L= []:=List.eq_nil_of_length_eq_zero g
    have HL0:=Lib.hid hL0
    clear hL0 HR' HR
    have h00:decide (0<L.length)=false:=by simp[g]
    clear g
    go_wp2_with fail
    refine wp_loop_rounds 1 ?_
    rw[rounds_succ]
    go_wp2
    rw[Exit.noGoto_ret]
    all_goals (go_ret3;exact⟨by rw[HL0.out];simp[AT,Dn],rfl⟩)
  obtain⟨b,off,cc,hv,hcap,hcap2,hbw,hcell⟩:=HR'.out.open_ (by omega)
  simp only[Value.slice.injEq,true_and]at hv
  obtain⟨rfl,rfl⟩:=hv
  have haL:a+L.length≤9223372036854775807:=by have:=HLn.out;omega
  clear HR' HR
  go_wp2_with fail
  go_loop [7,8,23] (fun vx vs vi=>∃k out:Nat,vi = .int .i64 k∧vs = .int .i64 ((7*k:Nat):Int)∧vx = .int .u64 out∧k≤L.length∧k≤8∧out<2^(7*k)∧AT 0 L=(AT k (L.drop k)).map (fun x=>(out+2^(7*k)*x.1,x.2+k)))
    (fun _ _ vi=>L.length-(intOf vi).toNat)
  case atStart=>exact⟨0,0,rfl,rfl,rfl,by omega,by omega,by decide,by simp⟩
  case round=>
    obtain⟨k,out,rfl,rfl,rfl,hk,f,hout,hdec⟩:=hrel
    have HD:=Lib.hid hdec
    clear hdec
    by_cases hkl:k<L.length
    · have hc:=hcell k hkl
      have hdrop:L.drop k=L[k] :: L.drop (k+1):=List.drop_eq_getElem_cons hkl
      have hg:L.getD k 0=L[k]:=by simp[hkl]
      rw[hg]at hc
      generalize L[k]=c at hc hdrop
      have HDr:=Lib.hid hdrop
      have i:=c.toNat_lt
      clear hcell hdrop hg
      have HO:=Lib.hid hout
      clear hout
      by_cases h128:128≤c.toNat
      · by_cases hk8' :k=8
        · subst hk8'
          go_wp2
          all_goals (go_ret3;exact⟨by rw[HD.out,HDr.out];simp[AT,h128,Dn],rfl⟩)
        · have m:k<8:=by omega
          clear hk8'
          go_wp2
          go_round
          case rel=>
            have hp:2^(7*(k+1))=2^(7*k)*128:=by rw[show 7*(k+1)=7*k+7 from by omega,Nat.pow_add]
            refine⟨k+1,out+2^(7*k)*(c.toNat-128),by go_num,by go_num,?_,by omega,by omega,?_,?_⟩
            · rw[KW _ h128 i,Gd _ _ (by omega) (by omega),KV _ _ _ HO.out (by omega) (by omega)]
            · have h1:=HO.out
              have h2:2^(7*k)*(c.toNat-128)≤2^(7*k)*127:=Nat.mul_le_mul_left _ (by omega)
              rw[hp]
              omega
            · rw[HD.out,HDr.out]
              have:AT k (c :: L.drop (k+1))=(AT (k+1) (L.drop (k+1))).map (fun x=>(c.toNat-128+128*x.1,x.2+1)):=by
                simp only[AT]
                rw[if_pos h128,if_neg (by omega)]
              rw[this,Option.map_map]
              congr 1
              funext x
              simp only[Function.comp,Prod.mk.injEq]
              refine⟨?_,by omega⟩
              rw[hp,Nat.mul_add,Nat.mul_assoc]
              omega
          case measure=>simp[intOf];omega
      · have hlt:c.toNat<128:=by omega
        by_cases h0:c.toNat=0
        · have hz:((c.toNat:Int)==0)=true:=by simp[h0]
          have HZ:=Lib.hid h0
          clear h0
          by_cases h:0<k
          · go_wp2
            all_goals (go_ret3;exact⟨by rw[HD.out,HDr.out];simp[AT,HZ.out,h,Dn],rfl⟩)
          · have j:decide (0<k)=false:=by simp;omega
            clear h
            have hd:AT k (c :: L.drop (k+1))=some (c.toNat,1):=by
              simp only[AT]
              rw[if_neg h128,if_neg (by simp at j;omega)]
            have HD2:=Lib.hid hd
            clear hd
            go_wp2
            all_goals go_ret3
            all_goals refine⟨?_,rfl⟩
            all_goals rw[Gd _ _ hlt f,KV _ _ _ HO.out hlt f,HD.out,HDr.out,HD2.out]
            all_goals exact Nv a k _ _ (KX _ _ _ HO.out hlt f)
        · have hz:((c.toNat:Int)==0)=false:=by simp[h0]
          have HZ:=Lib.hid h0
          clear h0
          have hd:AT k (c :: L.drop (k+1))=some (c.toNat,1):=by
            simp only[AT]
            rw[if_neg h128,if_neg (by have:=HZ.out;omega)]
          have HD2:=Lib.hid hd
          clear hd
          go_wp2
          all_goals go_ret3
          all_goals refine⟨?_,rfl⟩
          all_goals rw[Gd _ _ hlt f,KV _ _ _ HO.out hlt f,HD.out,HDr.out,HD2.out]
          all_goals exact Nv a k _ _ (KX _ _ _ HO.out hlt f)
    · have hkl' :k=L.length:=by omega
      go_wp2
      all_goals (go_ret3;exact⟨by rw[HD.out,hkl'];simp[AT,Dn],rfl⟩)
open Go.RowKit
theorem u5:Tryz.prog.underlying 5=some (.int .u8):=by kernel_rfl

theorem RO(w:World)(ao:Option Addr)(n c:Nat)(a:Int)(ha:a<0∨(n:Int)<a):
    Calls Tryz.prog 68 #[.slice ao n c, .int .i64 a] w fun e w' =>e = .returned (.tuple #[.int .i64 0, .int .i64 0, .int .i64 1])∧w=w' :=by
  by_cases h0:a<0
  · have hd:decide (a<0)=true:=by simp[h0]
    clear ha
    go_enter Tryz.func68,Tryz.ntmps68
    go_wp2_with fail
    go_step3
    go_wp2_with fail
    rw[Exit.noGoto_ret]
    go_ret3
    exact⟨rfl,rfl⟩
  · have hd:decide (a<0)=false:=by simp[h0]
    have h1:(n:Int)<a:=by omega
    have hd2:decide ((n:Int)<a)=true:=by simp[h1]
    clear ha
    go_enter Tryz.func68,Tryz.ntmps68
    go_wp2_with fail
    go_step3
    go_wp2_with fail
    rw[Exit.noGoto_ret]
    go_ret3
    exact⟨rfl,rfl⟩

def BV(l:List UInt8)(a:Nat)(most:Int):Value:=
  match AT 0 (l.drop a)with
  | none=> .tuple #[.string ⟨#[]⟩, .int .i64 0, .int .i64 6]
  | some x=>if most<x.1 then .tuple #[.string ⟨#[]⟩, .int .i64 0, .int .i64 2]
      else if l.length<a+x.2+x.1 then .tuple #[.string ⟨#[]⟩, .int .i64 0, .int .i64 6]
      else .tuple #[.string ⟨((l.drop (a+x.2)).take x.1).toArray⟩, .int .i64 ↑(a+x.2+x.1), .int .i64 0]

set_option maxRecDepth 100000 in
set_option maxHeartbeats 1000000 in
theorem EQ(w:World)(v:Value)(l:List UInt8)(hr:RB w v l)(a:Nat)(ha:a≤l.length)(most:Int):
    Calls Tryz.prog 66 #[v, .int .i64 a, .int .i64 most] w fun e w' =>e = .returned (BV l a most)∧w=w' :=by
  have HR:=Lib.hid hr
  obtain⟨ao,cap,rfl,h2,h3⟩:=hr.len
  clear hr
  have HG:=Lib.hid (Ir w _ l HR.out a ha)
  cases hL:AT 0 (l.drop a)with
  | none=>
    have hR:BV l a most = .tuple #[.string ⟨#[]⟩, .int .i64 0, .int .i64 6]:=by unfold BV;rw[hL]
    rw[hR]
    have HL:=Lib.hid hL
    clear hL hR
    go_enter Tryz.func66,Tryz.ntmps66
    go_wp2_with fail
    refine HG.out.mono ?_
    rintro e w1 ⟨rfl,rfl⟩
    rw[HL.out]
    unfold Dn
    go_wp2_with fail
    go_ret3
    exact⟨rfl,rfl⟩
  | some x=>
    obtain⟨n,m⟩:=x
    have hp:=EP _ _ _ hL
    have hlt:=GW _ _ _ hL
    rw[List.length_drop]at hp
    have hm9:m≤9:=by have:=hp.2.2;simp at this;exact this
    have b:n≤9223372036854775807:=by
      have h1:128^m≤128^9:=Nat.pow_le_pow_right (by decide) hm9
      simp only at hlt
      omega
    have hm1:1≤m:=hp.1
    have hml:a+m≤l.length:=by have:=hp.2.1;simp at this;omega
    have HL:=Lib.hid hL
    clear hL hlt hp
    by_cases hmost:most<n
    · have hR:BV l a most = .tuple #[.string ⟨#[]⟩, .int .i64 0, .int .i64 2]:=by unfold BV;rw[HL.out];simp only[];rw[if_pos hmost]
      rw[hR]
      clear hR
      go_enter Tryz.func66,Tryz.ntmps66
      go_wp2_with fail
      refine HG.out.mono ?_
      rintro e w1 ⟨rfl,rfl⟩
      rw[HL.out]
      unfold Dn
      go_wp2_with fail
      go_ret3
      exact⟨rfl,rfl⟩
    · by_cases hlen:l.length<a+m+n
      · have hR:BV l a most = .tuple #[.string ⟨#[]⟩, .int .i64 0, .int .i64 6]:=by unfold BV;rw[HL.out];simp only[];rw[if_neg hmost,if_pos hlen]
        rw[hR]
        clear hR
        go_enter Tryz.func66,Tryz.ntmps66
        go_wp2_with fail
        refine HG.out.mono ?_
        rintro e w1 ⟨rfl,rfl⟩
        rw[HL.out]
        unfold Dn
        go_wp2_with fail
        go_ret3
        exact⟨rfl,rfl⟩
      · have hR:BV l a most = .tuple #[.string ⟨((l.drop (a+m)).take n).toArray⟩, .int .i64 ↑(a+m+n), .int .i64 0]:=by unfold BV;rw[HL.out];simp only[];rw[if_neg hmost,if_neg hlen]
        rw[hR]
        clear hR
        go_enter Tryz.func66,Tryz.ntmps66
        go_wp2_with fail
        refine HG.out.mono ?_
        rintro e w1 ⟨rfl,rfl⟩
        rw[HL.out]
        unfold Dn
        have hlh:a+m≤a+m+n:=Nat.le_add_right _ _
        have hhl:a+m+n≤l.length:=by omega
        go_wp2_with (refine FS (o:=⟨some 38,_,_,_,_,_⟩) rfl _ _ (some _) (some _) rfl Ek MH _ l rfl HR.out (a+m) (a+m+n) hlh hhl (.inr ⟨.i64,rfl⟩) (.inr ⟨.i64,rfl⟩) ?_)
        intro ao' c' hr'
        have HR' :=Lib.hid hr'
        clear hr'
        go_wp2_with (refine LM (o:=⟨some 39,_,_,_,_,_⟩) rfl _ _ _ rfl Ek u5 Pm _ _ rfl HR'.out ?_)
        go_ret3
        exact⟨rfl,rfl⟩
open Go.RowKit
theorem P8:Tryz.prog.underlying 24=some (.array 32 5):=by kernel_rfl
theorem Nw:(Tryz.prog.info? 24).map (·.size)=some 32:=by kernel_rfl
theorem Q0:(Tryz.prog.info? 5).map (·.size)=some 1:=by kernel_rfl

def zero32:List UInt8:=List.replicate 32 0
theorem Ef{l:List UInt8}(h:l.length=32):(Lib.byteCells l).toArray.size=32:=by simp[Lib.byteCells,h]
theorem At{l:List UInt8}(h:l.length=32):(Tryz.prog.info? 24).map (·.size)=some (Lib.byteCells l).toArray.size:=by rw[Ef h];exact Nw
theorem MJ:zero32.length=32:=List.length_replicate

theorem Mk(ρ:Operand→Value)(d:Option Tmp)(ty:TypeId)(pos:String)(af:Array Edge)(w:World):(execOp ρ ⟨d, .alloc 24,ty,pos,af,none⟩).run Tryz.prog w = .ok (.value (.pointer (some ⟨w.heap.size,0,none⟩))) (w.alloc (.cells (Lib.byteCells zero32).toArray 24)):=by kernel_rfl

def DS(l:List UInt8)(a:Nat):Value:=
  if l.length-a<32 then .tuple #[.agg (Lib.byteCells zero32).toArray, .int .i64 0, .int .i64 6]
  else .tuple #[.agg (Lib.byteCells ((l.drop a).take 32)).toArray, .int .i64 ↑(a+32), .int .i64 0]

set_option maxRecDepth 100000 in
set_option maxHeartbeats 1000000 in
theorem KY(w:World)(v:Value)(l:List UInt8)(hr:RB w v l)(a:Nat)(ha:a≤l.length):
    Calls Tryz.prog 67 #[v, .int .i64 a] w fun e w' =>e = .returned (DS l a)∧Ext w w' :=by
  have HR:=Lib.hid hr
  obtain⟨ao,cap,rfl,h2,h3⟩:=hr.len
  clear hr
  have hd:decide ((a:Int)<0)=false:=by simp
  have hd2:decide (l.length<a)=false:=by simp;omega
  by_cases hs:l.length-a<32
  · have hR:DS l a = .tuple #[.agg (Lib.byteCells zero32).toArray, .int .i64 0, .int .i64 6]:=by unfold DS;rw[if_pos hs]
    rw[hR]
    clear hR
    go_enter Tryz.func67,Tryz.ntmps67
    have HSI:=Lib.hid (At MJ)
    go_wp2_with (first | (refine GK (o:=⟨some 4, .alloc _,_,_,_,_⟩) rfl _ _ (Mk _ _ _ _ _ _) ?_) | (refine wpList_load_row (o:=⟨some 21,_,_,_,_,_⟩) rfl _ _ rfl w.heap.size rfl _ _ _ _ (heap_alloc_new w _) P8 rfl HSI.out ?_) | (refine EK (o:=⟨none, .store _ _ _,_,_,_,_⟩) rfl _ _ _ rfl w.heap.size rfl (Lib.byteCells zero32).toArray 24 rfl (heap_alloc_new w _) HSI.out (Ay zero32) ?_))
    refine bodyPost_ret (v:= .tuple #[.agg (Lib.byteCells zero32).toArray, .int .i64 0, .int .i64 6]) (GB Tryz.results67 _ _ w.heap.size 24 (Lib.byteCells zero32).toArray (0,0) _ rfl (heap_alloc_new w _) P8 rfl HSI.out) rfl ⟨rfl,(Below.refl _ _).alloc (Nat.le_refl _) _⟩
  · have hR:DS l a = .tuple #[.agg (Lib.byteCells ((l.drop a).take 32)).toArray, .int .i64 ↑(a+32), .int .i64 0]:=by unfold DS;rw[if_neg hs]
    rw[hR]
    clear hR
    go_enter Tryz.func67,Tryz.ntmps67
    go_wp2_with (refine GK (o:=⟨some 4, .alloc _,_,_,_,_⟩) rfl _ _ (Mk _ _ _ _ _ _) ?_)
    have hal:a+32≤l.length:=by omega
    obtain⟨w0,hw0⟩:∃w0,w0=w.alloc (.cells (Lib.byteCells zero32).toArray 24):=⟨_,rfl⟩
    have hbox:w0.heap[w.heap.size]? =some (.cells (Lib.byteCells zero32).toArray 24 (0,0)):=by rw[hw0];exact heap_alloc_new w _
    have hsz:w0.heap.size=w.heap.size+1:=by rw[hw0];simp
    have c:Below w.heap.size w w0:=by rw[hw0];exact(Below.refl _ _).alloc (Nat.le_refl _) _
    rw[←hw0]
    clear hw0
    have f:((l.drop a).take 32).length=32:=by rw[List.length_take,List.length_drop];omega
    have HL32:=Lib.hid f
    clear f hd hd2
    refine I6 [4] (fun n=>if n=4 then [3]else []) (fun w' =>Below w.heap.size w0 w' ∧∃cur:Array Value,cur.size=32∧w'.heap[w.heap.size]? =some (.cells cur 24 (0,0)))
      (fun w1 b=>w1.grownBy b (some w.heap.size)∧((∃cur:Array Value,cur.size=32∧w1.heap[w.heap.size]? =some (.cells cur 24 (0,0)))→∃cur:Array Value,cur.size=32∧b.heap[w.heap.size]? =some (.cells cur 24 (0,0))))
      [Is (.slice (some ⟨w.heap.size,0,none⟩) 32 32),Is (.slice ao l.length cap),Is (.int .i64 a),(fun x w' =>RB w' x (l.drop a)),(fun _ w' =>w'.heap[w.heap.size]? =some (.cells (Lib.byteCells ((l.drop a).take 32)).toArray 24 (0,0)))]
      (by kernel_rfl) _ _ (by kernel_rfl) (by kernel_rfl) [22,23,24,25,26] (by kernel_rfl)
      (fun w1 b h k=>⟨h.1.trans (k.mono (by have:=h.1.size;have:=hsz;omega)),by obtain⟨cur,h1,h2⟩:=h.2;exact⟨cur,h1,(k.block _ (Array.getElem?_eq_some_iff.1 h2).1).trans h2⟩⟩)
      (fun w1 b h k=>⟨h.1.grown k.1 (by have:=h.1.size;have:=hsz;omega) (fun _ e=>by cases e;exact Nat.le_refl _),k.2 h.2⟩) (fun w=>⟨World.grownBy.refl _ _,fun h=>h⟩) ⟨(Below.refl _ _).drew,_,Ef rfl,hbox⟩ ?hst ?hsk ?hs ?hQ
    case hst=>
      refine⟨Stab.is _,Stab.is _,Stab.is _,Stab.rb _,fun v w1 b h k=> ?_,trivial⟩
      have h' :w1.heap[w.heap.size]? =_:=h
      exact(k.block _ (Array.getElem?_eq_some_iff.1 h').1).trans h'
    case hsk=>
      intro n i hn hi hk hne hb
      simp at hn
      subst hn
      match i,hi,hk,hne,hb with
      | 0,_,_,_,_=>exact Stab.is _
      | 1,_,_,_,_=>exact Stab.is _
      | 2,_,_,_,_=>exact Stab.is _
      | 3,_,hk,_,_=>simp at hk
      | 4,_,_,hne,_=>simp at hne
    case hs=>
      refine⟨?_,?_,?_,?_,?_,trivial⟩
      · refine E8 rfl fun ρ w1 hC h=> ?_
        have h4:ρ 4 = .pointer (some ⟨w.heap.size,0,none⟩):=h 4 (by decide)
        refine Yk.value (v:= .slice (some ⟨w.heap.size,0,none⟩) 32 32) (w' :=w1) ?_ ⟨Ext.refl _,rfl⟩
        clear h hC
        simp[execOp,Ag,h4,go_sem]
      · refine E8 rfl fun ρ w1 hC h=> ?_
        have h0:ρ 0 = .slice ao l.length cap:=h 0 (by decide)
        exact⟨Ext.refl _,h0⟩
      · refine E8 rfl fun ρ w1 hC h=> ?_
        have h0:ρ 1 = .int .i64 a:=h 1 (by decide)
        exact⟨Ext.refl _,h0⟩
      · refine E8 rfl fun ρ w1 hC h=> ?_
        have h23:ρ 23 = .slice ao l.length cap:=h 23 (by decide)
        have h24:ρ 24 = .int .i64 a:=h 24 (by decide)
        have g:RB w1 (Ag ρ (.tmp 23)) l:=by show RB w1 (ρ 23) l;rw[h23];exact HR.out.keep (c.trans hC.1)
        refine Yk.reslice Ek MH g a l.length ha (Nat.le_refl _) (.inr ⟨.i64,by simp[Ag,h24]⟩) (.inl ⟨rfl,rfl⟩) ?_
        intro ao' c' hr'
        rw[List.take_of_length_le (by rw[List.length_drop];exact Nat.le_refl _)]at hr'
        exact⟨Ext.refl _,hr'⟩
      · refine E8 rfl fun ρ w1 hC h=> ?_
        have h22:ρ 22 = .slice (some ⟨w.heap.size,0,none⟩) 32 32:=h 22 (by decide)
        have h25:RB w1 (ρ 25) (l.drop a):=h 25 (by decide)
        obtain⟨hC1,cur,hcs,hcb⟩:=hC
        have hm:Nat.min (l.drop a).length 32=32:=Nat.min_eq_right (by rw[List.length_drop];exact Nat.le_sub_of_add_le (by rw[Nat.add_comm];exact hal))
        have hfit:0+Nat.min (l.drop a).length 32≤cur.size:=by rw[hm,hcs];exact Nat.le_refl _
        refine Yk.copyB (.tmp 22) (.tmp 25) (o:=0) Ek Q0 h22 h25 hcb hfit ?_
        have e:(cur.toList.take 0++Lib.byteCells ((l.drop a).take 32)++cur.toList.drop (0+Nat.min (l.drop a).length 32)).toArray=(Lib.byteCells ((l.drop a).take 32)).toArray:=by
          have hd0:cur.toList.drop (0+32)= []:=List.drop_of_length_le (Nat.le_of_eq (by rw[Array.length_toList,hcs]))
          rw[hm,hd0]
          simp
        rw[e]
        have hw:=setRow_heap w1 w.heap.size cur (Lib.byteCells ((l.drop a).take 32)).toArray 24 (0,0) hcb
        exact⟨⟨⟨rfl,rfl,rfl,by simp,fun k _ hk=>setRow_other w1 w.heap.size k _ (fun e=>hk (by rw[e]))⟩,fun _=>⟨_,Ef HL32.out,hw⟩⟩,hw⟩
    case hQ=>
      intro u w1 hC hE
      obtain⟨-,-,-,-,h26,-⟩:=hE
      have hblk:w1.heap[w.heap.size]? =some (.cells (Lib.byteCells ((l.drop a).take 32)).toArray 24 (0,0)):=h26
      clear h26
      simp only[De,List.foldl_cons,List.foldl_nil,List.setIfInBounds_toArray,List.set_cons_zero,List.set_cons_succ]
      have hsi:(Tryz.prog.info? 24).map (·.size)=some (Lib.byteCells ((l.drop a).take 32)).toArray.size:=by rw[Ef HL32.out];exact Nw
      have HB:=Lib.hid hblk
      clear hblk
      have HSI:=Lib.hid hsi
      clear hsi
      go_wp2_with (first | (refine wpList_load_row (o:=⟨some 27,_,_,_,_,_⟩) rfl _ _ rfl w.heap.size rfl _ _ _ _ HB.out P8 rfl HSI.out ?_) | (refine EK (o:=⟨none, .store _ _ _,_,_,_,_⟩) rfl _ _ _ rfl w.heap.size rfl (Lib.byteCells ((l.drop a).take 32)).toArray 24 rfl HB.out HSI.out (Ay _) ?_))
      refine bodyPost_ret (v:= .tuple #[.agg (Lib.byteCells ((l.drop a).take 32)).toArray, .int .i64 ↑(a+32), .int .i64 0]) ?_ rfl ⟨rfl,c.trans hC.1⟩
      exact GB Tryz.results67 _ _ w.heap.size 24 _ (0,0) _ rfl HB.out P8 rfl HSI.out
open Go.RowKit
def ER(c:UInt8):Bool:=((((((decide (97≤c.toNat))&&(decide (c.toNat≤122)))||((decide (65≤c.toNat))&&(decide (c.toNat≤90))))||((decide (48≤c.toNat))&&(decide (c.toNat≤57))))||(decide (c.toNat=45)))||(decide (c.toNat=95)))||(decide (c.toNat=46))
def En(s:Bs):Bool:=(((decide (s.length<1)||decide (32<s.length))||decide ((s.getD 0 0).toNat=46))||decide ((s.getD 0 0).toNat=45))||decide (s= [72,69,65,68])
def P9(s:Bs):Bool:=(((decide (s.length<1)||decide (32<s.length))||decide (s= [72,69,65,68]))||decide ((s.getD 0 0).toNat=46))||decide ((s.getD 0 0).toNat=45)
theorem KZ(s:Bs):P9 s=En s:=by
  unfold P9 En
  generalize (decide (s.length<1)||decide (32<s.length))=a
  generalize decide (s= [72,69,65,68])=b
  generalize decide ((s.getD 0 0).toNat=46)=c
  generalize decide ((s.getD 0 0).toNat=45)=d
  cases a <;> cases b <;> cases c <;> cases d <;> rfl
def Ap(s:Bs):Bool:= !En s&&s.all ER
theorem It{s:Bs}(h:En s=true):Ap s=false:=by unfold Ap;rw[h];rfl
theorem GX{s:Bs}(h:En s=false):1≤s.length∧s.length≤32:=by
  unfold En at h
  simp only[Bool.or_eq_false_iff,decide_eq_false_iff_not]at h
  omega
theorem D4{s:Bs}(h:Ap s=true):1≤s.length∧s.length≤32:=by
  unfold Ap at h
  refine GX ?_
  cases hh:En s with
  | false=>rfl
  | true=>rw[hh]at h;cases h
theorem Ju{s:Bs}{i:Nat}(hi:i<s.length)(h:ER (s.getD i 0)=false):Ap s=false:=by
  unfold Ap
  rw[Bool.and_eq_false_iff]
  refine .inr ?_
  rw[List.all_eq_false]
  refine⟨s.getD i 0,?_,by rw[h];decide⟩
  rw[List.getD_eq_getElem?_getD,List.getElem?_eq_getElem hi]
  exact List.getElem_mem hi
theorem K0{α:Type}{l:List α}{f:α→Bool}{i:Nat}(d:α)(hi:i<l.length)(h:(l.take i).all f=true)(h1:f (l.getD i d)=true):(l.take (i+1)).all f=true:=by
  rw[List.take_succ_eq_append_getElem hi,List.all_append,h]
  rw[List.getD_eq_getElem?_getD,List.getElem?_eq_getElem hi]at h1
  simp only[Option.getD_some]at h1
  simp[h1]
theorem Jv{s:Bs}{i:Nat}(h:En s=false)(hi:s.length≤i)(ha:(s.take i).all ER=true):Ap s=true:=by
  unfold Ap
  rw[h,List.take_of_length_le hi]at *
  rw[ha]
  rfl
end Go.Proofs.YtmonlobfofkbdaaGreatDoor
