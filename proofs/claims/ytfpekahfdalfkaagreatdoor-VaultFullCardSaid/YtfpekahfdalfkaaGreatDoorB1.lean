/- Part 1 of what stands behind these statements: laws and walks of the functions that are reached. Conditions: those that each theorem names. -/
import Derived.WalkKit
import Derived.WalkLawsBesides
import Derived.WalkSpells
import Derived.Deep.AppendSrc
import Derived.Lib.Hide
import Derived.Lib.VarintMem
import Derived.ProofKit
import Derived.OpenShut
import Derived.ShutString
import Derived.JoinedCond
import Derived.Orders
import Derived.Below
import Derived.Laws.IdiomStrings
import Derived.Deep.MidRow
import Derived.Scope
import Derived.Laws.Rows
import Derived.Laws.StructEq
import Derived.Lib.EndianBits
import Derived.Recover
import Derived.Lib.Walk
import Derived.Lib.Varint
import Derived.DeepKeys4
import Derived.MapKept
import Derived.WideKeyEntry
import Derived.Lib.Bytealg
import Derived.Laws.Externs
import Derived.Lib.ConvBytes
import Derived.Lib.AtoiErrMem
import Derived.Defers
import Derived.Sort.Walk0
import Derived.Maps.Own
import Derived.Maps.OwnSet
import Derived.Maps.Range
import Derived.Sort.KeysCollected
import Derived.Laws.IdiomRangeMap
import Derived.Shelf.SlMaps.Clone
import Derived.Shelf.SlIter.Nil
import Derived.Shelf.SortM.Plain
import Derived.Shelf.SortM.SortNone
import Derived.Laws.Small
import Derived.Lib.Builder
import Derived.Shelf.Strings.Builder1
import Derived.Lib.AppendZerosOnto
import Derived.Lib.Overlaps
import Derived.Shelf.Small.Strs
import Derived.Deep.DeepHandedRow
import Derived.Lib.LaidTab
import Derived.Stop.LaidErr
import Derived.Deep.Slices
import Derived.Test.YtfpekahfdalfkaaGreatDoorRows
import Derived.Test.YtfpekahfdalfkaaGreatDoorProg
set_option linter.unusedVariables false
set_option linter.unusedSimpArgs false
namespace Go.Proofs.YtfpekahfdalfkaaGreatDoor
open _root_.Go renaming Value → AcJ, World → AcK, Program → Adg, TypeId → AcR, Oper → Adb, Exit → Afj, Operand → AcW, Result → AhI, Edge → AdL, FuncId → AeB, Func → AfB, Code → Ae5, binOp → Adq, IntKind → AdU, Ending → Afa
open _root_.Go.Lib renaming byteCells → AcL, byteCells_append → Ag2, byteCells_length → AcZ
open _root_.Array renaming getElem?_eq_some_iff → Ade, toList_append → AiE, length_toList → Aew, getElem?_eq_none → AfZ, getElem?_setIfInBounds_ne → AfL, getD_eq_getD_getElem? → Ady, toList_setIfInBounds → Ae1, getElem?_eq_getElem → Afw, replicate → Aeq, getElem?_replicate → Aea, size_replicate → Agd, getElem?_setIfInBounds → Aep, getElem?_modify → Aig, getElem?_append → AgZ
open _root_.Option.some renaming inj → Adu, injEq → Aey
open _root_.Nat renaming le_trans → AcN, add_mul → AeV, mul_le_mul_right → Agc, le_refl → AcP, mul_one → Ah9, strongRecOn → Ae0, zero_add → Ad4, min → AfN, min_comm → AiO, beq → Ae9, eq_of_beq_eq_true → Afo, blt → AeC, le_of_ble_eq_true → Ac2, mod_eq_of_lt → Aed, min_eq_left → AfT, shiftLeft_eq → AhK, zero_le → Adm, sub_zero → AiR, lt_of_le_of_lt → AfW, or_lt_two_pow → Ahz, shiftLeft_add_eq_or_of_lt → Ag8, ble → AgI, le_of_lt → AiT
open _root_.Go.World.grownBy renaming refl → Aef
open _root_.Go.World renaming grownBy_alloc → AiD, ownsRow_nil → AdK, block_lt_of_cell? → Ad7, cell?_of_block → Ain, cell?_spot → AfC, cell? → Afc, shape? → AiS, freeze → AhO
open _root_.Go.RowKit.Below renaming refl → AdC, trans → Aic, grown → Ago
open _root_.Go.Builtin renaming append_ → AfO, len_ → AhM
open _root_.List renaming length_append → AcQ, size_toArray → Ac6, take_left → Ae8, eq_nil_of_length_eq_zero → Adw, length_take → Ac8, length_drop → Ac5, map_toArray → Ads, map_cons → Ado, map_nil → AdA, mem_map → Adx, length_cons → Adh, getElem?_eq_some_iff → Adc, getElem_mem → Ad9, getD → AgX, foldl_cons → AfP, getElem?_append_left → AdF, getElem?_eq_none → AdY, all_eq_true → Adv, mem_zipIdx_iff_getElem? → Ahf, range → AdN, getElem?_eq_getElem → AcS, mem_append_right → Aex, mem_append_left → Afv, getElem?_toArray → AdG, getElem?_cons_succ → Aem, mem_eraseDups → AfR, mem_filterMap → AeI, mem_of_getElem? → AdX, mem_range → AgG, getD_eq_getElem?_getD → AcO, map_take → Ahr, getElem?_take → AeS, drop_of_length_le → AdR, getElem?_drop → Agv, map_drop → Aiy, toArray → Aec, take_length → Ad6, all_cons → Ahs, map_set → AhN, take_of_length_le → AdD, drop_zero → Afg, mem_cons → Adz, mem_cons_of_mem → AdO, range' → Ahn, ext_getElem → AgT, getElem?_cons_zero → Afe, drop_eq_getElem_cons → Ad3, take_append_drop → Afb, filter_append → AfX, filter_eq_self → Agq, getElem_of_mem → Aeh, nodup_cons → AeQ, contains_iff_mem → AeR, nil_append → AdS, cons_append → AdP, nodup_append → AeY, mem_append → Adf, mem_singleton → AcY, append_of_mem → Afm
open _root_.Go.Value renaming ownBlock → AcT, cells → Ahm, slice → AcU, int → AeJ
open _root_.Go.Addr renaming add_lit → Aek, add → AeO
open _root_.Go.Oper renaming wp → Afn, upon → AfQ, looksAt → AiP
open _root_.Go.Sem renaming run_bind → Ac1, run_pure → Ac3
open _root_.Go.Result renaming andThen_ok → AcV, andThen → AdH, ok → AhY
open _root_.Go.Src renaming ofSlice → Ahl
open _root_.UInt8 renaming ofNat → AdQ, toNat_inj → Agr
open _root_.Go.IntKind renaming min → Aia, max → Aib, signed → AeK, bits → Ad0, wrap → Agw
open _root_.Go.DataW renaming trod → Aim
open _root_.Go.Proofs.Tryz renaming prog → AcM
open _root_.Go.Region renaming binds → Ad1, wanted → Ad8, ready → AdV
open _root_.Bool renaming or_eq_true → AeF, and_eq_true → AdT, false_eq_true → Afk, eq_iff_iff → AfV, not_eq_true → AgU
open _root_.Ne renaming symm → AgY
open _root_.Go.Act renaming put → AhH
open _root_.Option renaming bind_some → Ae4, getD_some → AdI, map_some → Aeb, map_none → AeG
open _root_.Classical renaming byContradiction → AdW
open _root_.Go.Code renaming region → AgP
open _root_.Go.Deferred renaming ofValue → AfA
open _root_.Go.Instr renaming storeAt → Afq, sureAddr → Aff, sliceAt → Agl, loadAt → AiQ, buildSlice → Adt
open _root_.Go.Program renaming elem → Af5, arrayLen → AhL
open _root_.Go.Calls renaming mono → AfS
open _root_.BitVec renaming ofInt_natCast → Age, isLt → Aid, ofNat → AeT, toNat_ofNat → Afl
open _root_.Go.Op renaming intArith → Agn, intBits → AgH, shift → AhJ, equal → Agy, maxDepth → Aie, equalIn → Aip, intCmp → Afz
open _root_.UInt32 renaming ofNat → Agx
open _root_.Int renaming toNat_natCast → Ac0, fdiv_eq_ediv_of_nonneg → Afr, natCast_nonneg → AfU, natCast_mul → AhZ
open _root_.Go.Conv renaming intToInt → Aiz
open _root_.Go.Next renaming value → Aio
open _root_.List.cons renaming injEq → Ag3
open Go.RowKit
/-! Short names for what stands in the walks again and again. -/
abbrev PQ(b o:Nat):AcJ:= .pointer (some ⟨b,o,none⟩)
abbrev St(l:List UInt8):AcJ:= .string ⟨l.toArray⟩
abbrev AB(l:List UInt8):AcJ:= .agg (AcL l).toArray
abbrev OB(v:AcJ)(g:Nat):Prop:=v.ownBlock≠some g
theorem Az{x v:AcJ}(h:x=v):x=v:=h
theorem As{a b n:Nat}(h:a<b)(e:b=n):a<n:=e▸h
theorem vr{x:AcJ}(y:AcJ)(h:x=y):x=y:=h
theorem bl{α:Type}{xs:Array α}{i:Nat}{o:α}(h:xs[i]? =some o):i<xs.size:=(Ade.1 h).1
theorem kb{w w' :AcK}{g n:Nat}{o:Obj}(hg:w.grownBy w' (some g))(hb:w.heap[n]? =some o)(h:n≠g):w'.heap[n]? =some o:=(hg.block n (bl hb) (fun e=>h (Adu e))).trans hb

structure Grew (w w' : AcK) (v v' : AcJ) : Prop where
  by_:w.grownBy w' v.ownBlock
  fresh:∀k,v'.ownBlock=some k→v.ownBlock=some k∨w.heap.size≤k

theorem Am{w w1 w2:AcK}{r r1:Option Nat}(h:w.grownBy w1 r)(k:w1.grownBy w2 r1)(hr:∀b,r1=some b→r=some b∨w.heap.size≤b):w.grownBy w2 r:=by
  refine⟨k.os.trans h.os,k.tape.trans h.tape,k.output.trans h.output,AcN h.size k.size,fun i hi hne=> ?_⟩;have h1:=h.size;rw[k.block i (by omega) (fun e=>(hr i e.symm).elim (fun h2=>hne h2.symm) (fun h2=>by omega)),h.block i hi hne]

theorem Grew.eqv{w w' :AcK}{x v v' :AcJ}(e:x=v)(h:Grew w w' x v'):Grew w w' v v' :=e▸h
theorem Grew.refl(w:AcK)(v:AcJ):Grew w w v v:=⟨Aef _ _,fun _ h=> .inl h⟩
theorem Grew.trans{w w1 w2:AcK}{v a c:AcJ}(h:Grew w w1 v a)(k:Grew w1 w2 a c):Grew w w2 v c:=
  ⟨Am h.by_ k.by_ h.fresh,fun b hb=>by
    have h1:=h.by_.size;rcases k.fresh b hb with h2 | h2
    · exact h.fresh b h2
    · exact .inr (by omega)⟩
theorem Grew.alloc{w w1:AcK}{v a:AcJ}(h:Grew w w1 v a)(o:Obj):Grew w (w1.alloc o) v a:=
  ⟨Am h.by_ (AiD _ o none) (fun _ e=>by cases e),h.fresh⟩
theorem Grew.drew{w w1:AcK}{v a:AcJ}(h:Grew w w1 v a):Grew w w1.drew v a:=
  ⟨⟨h.by_.os,h.by_.tape,h.by_.output,h.by_.size,h.by_.block⟩,h.fresh⟩
theorem Grew.below{B:Nat}{w w1:AcK}{v a:AcJ}(h:Grew w w1 v a)(hB:B≤w.heap.size)(hv:∀k,v.ownBlock=some k→B≤k):Below B w w1:=
  (AdC B w).grown h.by_ hB hv

section
variable {P : Adg} (w : AcK)
theorem Fk(base:Nat)(t tx ty e:AcR)(i:TypeInfo)(z:AcJ)(size bytes:Nat)(ht:P.underlying t=some (.slice e))(hi:P.info? e=some i)(hz:i.zero=some z) 
    (hsize:i.size=size) (hby:i.bytes=bytes) (hzs:z.cells.size=size)
    (v:AcJ) (n:Nat) (xs:List AcJ) (hown:w.ownsRow base e size v n xs)
    (x:AcJ) (m:Nat) (news:List AcJ) (hs:Src P size tx x m news w)
    (h63:n+m≤maxLen) (hbytes:(n+m)*bytes≤140737488355328) (hbase:base≤w.heap.size):
    ∃v' w',(AfO #[t,tx] ty #[v,x]).run P w = .ok v' w' ∧w'.ownsRow base e size v' (n+m) (xs++news)∧Grew w w' v v' :=by
  subst hsize;subst hby
  have hsmall:n+m≤9223372036854775807:=by simp only[maxLen]at h63;omega
  have hl:=hs.newsLen;have hlen:(xs++news).length=(n+m)*i.size:=by rw[AcQ,hown.1,hl,AeV]
  have grown:∀(old:Nat),old<n+m →
      (w.drew.alloc (.cells ((xs++news).toArray++Builtin.zeroCells z.cells (grownCap w (n+m) old e-(n+m))) e)).ownsRow base e i.size
        (.slice (some ⟨w.heap.size,0,none⟩) (n+m) (grownCap w (n+m) old e)) (n+m) (xs++news) ∧
      Grew w (w.drew.alloc (.cells ((xs++news).toArray++Builtin.zeroCells z.cells (grownCap w (n+m) old e-(n+m))) e)) v (.slice (some ⟨w.heap.size,0,none⟩) (n+m) (grownCap w (n+m) old e)):=by
    intro old ho;have hge:=grownCap_ge w (n+m) old e;have hcm:grownCap w (n+m) old e≤maxLen:=grownCap_le_maxLen w (n+m) old e h63;refine⟨⟨hlen, .inr ⟨w.heap.size,_,_,rfl,hbase,heap_alloc_new w.drew _,hge,hcm,?_,?_⟩⟩,⟨⟨rfl,rfl,rfl,by simp,fun _ hk _=>heap_alloc_old w.drew _ hk⟩,?_⟩⟩
    · simp only[Array.size_append,Ac6,size_zeroCells,hzs,hlen,←AeV]
      congr 1
      omega
    · simp only[AiE];rw[←hlen];exact Ae8
    · intro k hk;simp[AcT]at hk;exact .inr (by omega)
  rcases hown.2 with ⟨rfl,rfl⟩ | ⟨g,cap,cur,rfl,hbg,hg,hnc,hcm,hcs,htake⟩
  · have hx:xs= []:=Adw (by simpa using hown.1);subst hx;by_cases hm:m=0
    · subst hm;have hn:news= []:=Adw (by simpa using hl);subst hn;refine⟨.slice none 0 0,w,?_,AdK w base e i.size,Grew.refl _ _⟩;have hc:=hs.cells;have hle:=hs.len;rcases hs.kind with ⟨e',hk⟩ | hk <;> simp[AfO,run_underlying ht,run_underlying hk,sizeOf,typeInfo,hi,hle,hc]
    · have hgr:=grown 0 (by omega);have hr:=run_append_grow_src (P:=P) w t tx ty e i z ht hi hz none 0 0 [] (run_firstCells_none w.drew i.size 0 0 0) x m news hs (by omega) (by omega)
        (growslice_fits (by omega) hbytes)
      exact⟨_,_,hr,hgr.1,hgr.2⟩
  · by_cases hroom:n+m≤cap
    · have hfit:n*i.size+news.length≤cur.size:=by rw[hl,hcs,←AeV];exact Agc _ hroom
      have hst:=run_storeCells_at P g (n*i.size) e news 0 cur w hg (by simpa using hfit) hs.one;simp only[Nat.add_zero]at hst;have hr:(AfO #[t,tx] ty #[.slice (some ⟨g,0,none⟩) n cap,x]).run P w = .ok (.slice (some ⟨g,0,none⟩) (n+m) cap) (w.setRow g (cur.toList.take (n*i.size)++news++cur.toList.drop (n*i.size+news.length)).toArray):=by
        rcases hs.kind with ⟨e',hk⟩ | hk <;> simp[AfO,run_underlying ht,run_underlying hk,sizeOf,typeInfo,hi,hs.len,hroom,hs.cells,Aek,hst]
      refine⟨_,_,hr,⟨hlen, .inr ⟨g,cap,_,rfl,hbg,setRow_heap w g cur _ e _ hg,hroom,hcm,?_,?_⟩⟩,⟨⟨rfl,rfl,rfl,by simp,fun k _ hk=>setRow_other w g k _ (fun e=>hk (by simp[AcT,e]))⟩,fun k hk=> .inl hk⟩⟩
      · simp only[Ac6,AcQ,Ac8,Ac5,Aew];omega
      · rw[htake,←hlen];exact Ae8
    · have holds:∀j u,xs[j]? =some u→w.cell? ((⟨g,0,none⟩:Addr).add j)=some u:=hown.cells (g:=g) rfl;have hgr:=grown cap (by omega);have hr:=run_append_grow_src (P:=P) w t tx ty e i z ht hi hz (some ⟨g,0,none⟩) n cap xs (run_firstCells_some w.drew i.size n ⟨g,0,none⟩ n cap xs hown.1 (by simpa using holds)) x m news hs (by omega) (by omega)
        (growslice_fits (by omega) hbytes)
      exact⟨_,_,hr,hgr.1,hgr.2⟩

theorem C2{ops:Array Adb}{rest:List Adb}{o:Adb}{a:Act}{Q:Afj→Act→AcK→Prop}(hgd:o.guard=none)(s xo:AcW)(t tx:AcR) 
    (ho:o.op = .call { callee:= .builtin .append,args:= #[s,xo],argTypes:= #[t,tx] })
    (base:Nat) (e:AcR) (i:TypeInfo) (z:AcJ) (size bytes:Nat) (ht:P.underlying t=some (.slice e)) (hi:P.info? e=some i) (hz:i.zero=some z)
    (hsize:i.size=size) (hby:i.bytes=bytes) (hzs:z.cells.size=size)
    (v:AcJ) (n:Nat) (xs:List AcJ) (hs:a.eval s=v) (hown:w.ownsRow base e size v n xs)
    (x:AcJ) (m:Nat) (news:List AcJ) (hx:a.eval xo=x) (hsrc:Src P size tx x m news w)
    (h63:n+m≤maxLen) (hbytes:(n+m)*bytes≤140737488355328) (hbase:base≤w.heap.size)
    (h:∀v' w',w'.ownsRow base e size v' (n+m) (xs++news)→Grew w w' v v' →wpList P ops Q rest (a.put o.dst v') w'):wpList P ops Q (o :: rest) a w:=
  wpList_plain hgd fun K hK=>by
    obtain⟨v',w',hr,h2,h3⟩:=Fk (P:=P) w base t tx o.type e i z size bytes ht hi hz hsize hby hzs v n xs hown x m news hsrc h63 hbytes hbase;unfold Afn execOp;simp only[ho,resolve,invoke,builtin,Ac1,Ac3,AcV,Ads,Ado,AdA,hs,hx,hr];exact hK _ _ (h v' w' h2 h3)
end
theorem BL{w:AcK}{b b' :Nat}{e:AcR}{size:Nat}{v:AcJ}{n:Nat}{xs:List AcJ}(h:w.ownsRow b e size v n xs)(hb:b' ≤b):w.ownsRow b' e size v n xs:=
  ⟨h.1,h.2.imp (fun x=>x) (fun⟨g,cap,cur,a,c,r⟩=>⟨g,cap,cur,a,AcN hb c,r⟩)⟩

def Reads(w:AcK)(size:Nat)(v:AcJ)(n:Nat)(xs:List AcJ):Prop:=
  xs.length=n*size∧∃ao cap,v = .slice ao n cap∧n≤cap∧cap≤maxLen∧(ao=none→n=0∧cap=0)∧∀a,ao=some a→∀j u,xs[j]? =some u→w.cell? (a.add j)=some u

def RB(w:AcK)(v:AcJ)(l:List UInt8):Prop:=Reads w 1 v l.length (AcL l)

theorem Af(l:List UInt8):∀u∈AcL l,u.oneCell' =true:=by
  intro u hu;obtain⟨_,_,rfl⟩:=Adx.1 hu;rfl

theorem RB.src{P:Adg}{tx e' :AcR}(hk:P.underlying tx=some (.slice e')){w:AcK}{v:AcJ}{l:List UInt8}(h:RB w v l):Src P 1 tx v l.length (AcL l) w:=by
  obtain⟨h1,ao,cap,rfl,h2,h3,h4,h5⟩:=h;cases ao with
  | none=>
    obtain⟨h6,rfl⟩:=h4 rfl;have:l= []:=Adw h6;subst this;exact Src.ofNil w hk 0
  | some a=>exact Ahl w hk a _ cap _ h1 (h5 a rfl) (Af l)
theorem RB.below{B:Nat}{w w' :AcK}{v:AcJ}{l:List UInt8}(h:RB w v l)(hb:Below B w w')(hB:B=w.heap.size):RB w' v l:=by
  obtain⟨h1,ao,cap,rfl,h2,h3,h4,h5⟩:=h;refine⟨h1,ao,cap,rfl,h2,h3,h4,fun a ha j u hu=> ?_⟩;have:=h5 a ha j u hu;exact(hb.cell (by have:=Ad7 w _ this;omega)).trans this
theorem Ue(s:ByteArray):byteCells s=AcL s.data.toList:=rfl
theorem RT{P:Adg}{tx:AcR}(hk:P.underlying tx=some .string)(w:AcK)(s:ByteArray):Src P 1 tx (.string s) s.data.toList.length (AcL s.data.toList) w:=by
  have h:=Src.ofString (P:=P) w hk s;rw[Ue]at h;exact h
theorem ZP{w:AcK}{base:Nat}{e:AcR}{v:AcJ}{l:List UInt8}(h:w.ownsRow base e 1 v l.length (AcL l)):RB w v l:=by
  refine⟨h.1,?_⟩;have h' :=h;rcases h.2 with ⟨rfl,h0⟩ | ⟨g,cap,cur,rfl,hbg,hg,hnc,hcm,hcs,htake⟩
  · exact⟨none,0,by rw[h0],by omega,by simp[maxLen],fun _=>⟨h0,rfl⟩,fun a ha=>by cases ha⟩
  · exact⟨some ⟨g,0,none⟩,cap,rfl,hnc,hcm,(fun h=>by cases h),(fun a ha j u hu=>by cases ha;exact h'.cells rfl j u hu)⟩

theorem RU{P:Adg}{tx e' :AcR}(hk:P.underlying tx=some (.slice e'))(w:AcK)(c:AcJ)(t:AcR)(hc:c.oneCell' =true):Src P 1 tx (.slice (some ⟨w.heap.size,0,none⟩) 1 1) 1 [c] (w.alloc (.cells #[c] t)):=
  Ahl _ hk ⟨w.heap.size,0,none⟩ 1 1 [c] rfl (fun j u hj=>by
    match j,hj with
    | 0,hj=>simp at hj;subst hj;simp[AeO]) (fun u hu=>by simp at hu;subst hu;exact hc)

structure NewB (e : AcR) (w w' : AcK) (v : AcJ) (l : List UInt8) : Prop where
  own:w'.ownsRow w.heap.size e 1 v l.length (AcL l)
  by_:w.grownBy w' none
theorem NewB.rb{e:AcR}{w w' :AcK}{v:AcJ}{l:List UInt8}(h:NewB e w w' v l):RB w' v l:=ZP h.own
theorem NewB.below{e:AcR}{w w' :AcK}{v:AcJ}{l:List UInt8}(h:NewB e w w' v l):Below w.heap.size w w' :=
  (AdC _ _).grown h.by_ (AcP _) (fun k hk=>by cases hk)
theorem NewB.more{e:AcR}{w w1 w2:AcK}{v v' :AcJ}{l l' :List UInt8}(h:NewB e w w1 v l)(g:Grew w1 w2 v v')(ho:w2.ownsRow w.heap.size e 1 v' (l.length+l'.length) (AcL l++AcL l')):NewB e w w2 v' (l++l'):=
  ⟨by rw[Ag2,AcQ];exact ho,Am h.by_ g.by_ (fun b hb=> .inr (h.own.lt b hb).1)⟩
theorem RB.keep{w w' :AcK}{v:AcJ}{l:List UInt8}(h:RB w v l)(hb:Below w.heap.size w w'):RB w' v l:=h.below hb rfl
theorem RB.len{w:AcK}{v:AcJ}{l:List UInt8}(h:RB w v l):∃ao cap,v = .slice ao l.length cap∧l.length≤cap∧cap≤9223372036854775807:=by
  obtain⟨h1,ao,cap,rfl,h2,h3,h4,h5⟩:=h;unfold maxLen at h3;exact⟨ao,cap,rfl,h2,h3⟩
open Go.ChangeShapes Go.WideShapes Go.ChangeAt Go.RowKit
open Go.ChangeMaps (open_string shut_string)
theorem Ng{H:Type}(d:DataW H):1≤Rows.uptoBulk d:=by
  cases d with
  | lit l=>cases l <;> simp[Rows.uptoBulk]
  | nil=>simp[Rows.uptoBulk]
  | ptr d=>simp[Rows.uptoBulk]
  | slice elems spare=>simp[Rows.uptoBulk]
  | agg parts=>simp[Rows.uptoBulk]
  | iface t d=>simp[Rows.uptoBulk]
  | map entries=>simp[Rows.uptoBulk]
  | held h=>simp[Rows.uptoBulk]
theorem Jz{H:Type}(l:List (DataW H)):l.length≤Rows.uptoBulkAll l:=by
  induction l with
  | nil=>simp[Rows.uptoBulkAll]
  | cons x r ih=>have:=Ng x;simp only[Rows.uptoBulkAll,Adh];omega
theorem Qg{H:Type}(elems spare:List (DataW H)):elems.length+spare.length+1≤Rows.uptoBulk (.slice elems spare):=by
  have h1:=Jz elems;have h2:=Jz spare;simp only[Rows.uptoBulk];omega
theorem Qh{w:AcK}{a:Addr}{len cap:Nat}{zs:List Int}(hl:len≤cap)(hm:cap≤maxLen)(hz:len≤zs.length)(hc:∀i,i<zs.length→w.cell? (a.add i)=some (.int .u8 (zs.getD i 0)))(hw:∀n∈zs,(Lit.int .u8 n).wf=true):
    RB w (.slice (some a) len cap) ((zs.take len).map fun n=>AdQ n.toNat):=by
  have hlen:((zs.take len).map fun n=>AdQ n.toNat).length=len:=by simp;omega
  refine⟨by rw[AcZ,hlen,Ah9],some a,cap,by rw[hlen],by omega,hm,(fun h=>by cases h),fun a' ha j u hu=> ?_⟩;cases ha;have hj:j<len:=by
    have:=(Adc.1 hu).1;rw[AcZ,hlen]at this;exact this
  have hjz:j<zs.length:=by omega
  have hwf:=hw zs[j] (Ad9 hjz);have hb:0≤zs[j]∧zs[j]≤255:=by simpa [Lit.wf,Aia,Aib,AeK,Ad0] using hwf
  rw[hc j hjz];simp[AcL,hj,hjz]at hu;rw[←hu]
  congr 1
  simp[AgX,hjz];omega

section
variable {H : Type} {enc : AcR × AcJ → H} {P : Adg} {W : AcK}
theorem OS{t e:AcR}{fuel:Nat}{cs:List AcJ}{x:DataW H × List MemPlace}(ht:P.underlying t=some (.slice e))(he:P.underlying e=some (.int .u8))(hc:P.cellsOf e=1) 
    (hf:Aim enc P W 0 (fun _=>true) true fuel t cs=some x):∃c l,cs= [c]∧RB W c l∧l.length+1≤Rows.uptoBulk x.1:=by
  rcases open_ints ht he hc hf with ⟨hcs,hx⟩ | ⟨a,l,c,zs,hcs,_,hl,hm,hz,hx,hcell,hwz⟩
  · exact⟨_,[],hcs,⟨rfl,none,0,rfl,AcP _,by simp[maxLen],fun _=>⟨rfl,rfl⟩,fun a h=>by cases h⟩,by have:=Ng x.1;simpa using this⟩
  · simp at hz;refine⟨_,_,hcs,Qh hl hm (by omega) hcell hwz,?_⟩;rw[hx];have:=Qg (H:=H) (lits .u8 (zs.take l)) (lits .u8 (zs.drop l));simp[lits]at this ⊢;omega
end
theorem own:ownKnob Tryz.prog.godebug=none:=by kernel_rfl
theorem WB:laidOutB AcM=true:=by kernel_rfl
abbrev Bm:=AcJ→AcK→Prop
def Is(v:AcJ):Bm:=fun x _=>x=v
def Aa(ρ:Tmp→AcJ):AcW→AcJ
  | .tmp t=>ρ t
  | .const v=>v
  | .global g=> .pointer (some ⟨g,0,none⟩)
  | .func f=> .func (.func f) #[] #[]
theorem evalR_eq(a:Act):Aa (fun t=>a.tmps.getD t undef)=a.eval:=by
  funext x
  cases x <;> rfl
def Yk(P:Adg)(K:AcJ→AcK→Prop):AhI Next→Prop
  | .ok (.value v) w=>K v w
  | .ok .skip w=>K undef w
  | .ok (.enter f args) w=>Calls P f args w fun e w' =>∃v,e = .returned v∧K v w'
  | _=>False
def Dc(l:List Adb)(t:Tmp):Nat→Option Nat
  | 0=>none
  | n+1=>if(l[n]?.bind (·.dst))=some t then some n else Dc l t n
def Ge(l:List Adb)(Φ:Nat→Bm)(T:Array AcJ)(n:Nat)(t:Tmp)(x:AcJ)(w:AcK):Prop:=
  match Dc l t n with
  | none=>x=T.getD t undef
  | some k=>Φ k x w
def Bj(l:List Adb)(o:Adb)(ρ:Tmp→AcJ):Bool:=
  match o.guard with
  | none=>true
  | some (g,want)=>match (l[g]?).bind (·.dst)with
    | some t=>(match ρ t with | .bool b=>b==want | _=>false)
    | none=>false
def Gf(P:Adg)(l:List Adb)(C:Nat→AcK→Prop)(R:Nat→AcK→AcK→Prop)(Φ:Nat→Bm)(T:Array AcJ)(n:Nat)(o:Adb):Prop:=
  ∀(ρ:Tmp→AcJ) (w:AcK),C n w→(∀t∈o.looksAt l.toArray,Ge l Φ T n t (ρ t) w) →
    if Bj l o ρ=true then Yk P (fun v w' =>R n w w' ∧Φ n v w') ((execOp (Aa ρ) o).run P w)else Φ n undef w
def StepsOk(P:Adg)(l:List Adb)(C:Nat→AcK→Prop)(R:Nat→AcK→AcK→Prop)(Φ:Nat→Bm)(T:Array AcJ):Nat→List Adb→Prop
  | _,[]=>True
  | n,o :: r=>Gf P l C R Φ T n o∧StepsOk P l C R Φ T (n+1) r
theorem StepsOk.get{P:Adg}{l:List Adb}{C:Nat→AcK→Prop}{R:Nat→AcK→AcK→Prop}{Φ:Nat→Bm}{T:Array AcJ}:
    ∀(r:List Adb) (n:Nat),StepsOk P l C R Φ T n r→∀k o,r[k]? =some o→Gf P l C R Φ T (n+k) o
  | [],_,_,k,o,h=>by simp at h
  | x :: r,n,h,0,o,hk=>by simp at hk;subst hk;exact h.1
  | x :: r,n,h,k+1,o,hk=>by
    have:=StepsOk.get r (n+1) h.2 k o (by simpa using hk)
    rwa [show n+(k+1)=n+1+k by omega]

/-! ### The edges' closure, as bits -/
def G7(acc:List Nat)(o:Adb):Nat:=
  o.after.toList.foldl (fun s e=>if Ad1 .any e then s|||2^e.on|||acc.getD e.on 0 else s) 0
def AL:List Adb→List Nat→List Nat
  | [],acc=>acc
  | o :: r,acc=>AL r (acc++ [G7 acc o])
theorem Nh(acc:List Nat)(k:Nat):∀(es:List AdL) (s:Nat),(es.foldl (fun s e=>if Ad1 .any e then s|||2^e.on|||acc.getD e.on 0 else s) s).testBit k=true →
    s.testBit k=true∨∃e∈es,Ad1 .any e=true∧(e.on=k∨(acc.getD e.on 0).testBit k=true)
  | [],s,h=> .inl h
  | e :: es,s,h=>by
    rw[AfP]at h;rcases Nh acc k es _ h with h1 | ⟨e',he',hb,hx⟩
    · by_cases hb:Ad1 .any e=true
      · rw[if_pos hb]at h1;simp only[Nat.testBit_or,AeF]at h1;rcases h1 with (h1 | h1) | h1
        · exact .inl h1
        · rw[Nat.testBit_two_pow]at h1;exact .inr ⟨e,by simp,hb, .inl (by simpa using h1)⟩
        · exact .inr ⟨e,by simp,hb, .inr h1⟩
      · rw[if_neg hb]at h1;exact .inl h1
    · exact .inr ⟨e',by simp[he'],hb,hx⟩
theorem OT{acc:List Nat}{o:Adb}{k:Nat}(h:(G7 acc o).testBit k=true):
    ∃e∈o.after,Ad1 .any e=true∧(e.on=k∨(acc.getD e.on 0).testBit k=true):=by
  rcases Nh acc k _ _ h with h1 | ⟨e,he,hb,hx⟩
  · simp at h1
  · exact⟨e,by simpa using he,hb,hx⟩
theorem JV(l:List Adb):∀(r:List Adb) (acc:List Nat),acc.length+r.length=l.length→(∀j,r[j]? =l[acc.length+j]?) →
    (∀i o k,i<acc.length→l[i]? =some o→(acc.getD i 0).testBit k=true→∃e∈o.after,Ad1 .any e=true∧(e.on=k∨(e.on<i∧(acc.getD e.on 0).testBit k=true))) →
    ∀i o k,l[i]? =some o→((AL r acc).getD i 0).testBit k=true→∃e∈o.after,Ad1 .any e=true∧(e.on=k∨(e.on<i∧((AL r acc).getD e.on 0).testBit k=true))
  | [],acc,hl,_,hacc,i,o,k,hi,h=>by
    have:i<l.length:=(Adc.1 hi).1;exact hacc i o k (by simp at hl;omega) hi h
  | x :: r,acc,hl,hr,hacc,i,o,k,hi,h=>by
    rw[AL]at h ⊢;refine JV l r (acc++ [G7 acc x]) (by simp at hl ⊢;omega) (fun j=>by have:=hr (j+1);simp at this ⊢;rw[this];congr 1;omega) ?_ i o k hi h;intro i o k hlt ho ht;have keep:∀j,j<acc.length→(acc++ [G7 acc x]).getD j 0=acc.getD j 0:=fun j hj=>by
      simp[AgX,AdF hj]
    simp at hlt;by_cases hia:i<acc.length
    · rw[keep i hia]at ht;obtain⟨e,he,hb,hx⟩:=hacc i o k hia ho ht;exact⟨e,he,hb,hx.imp id (fun h2=>⟨h2.1,by rw[keep _ (by omega)];exact h2.2⟩)⟩
    · have hie:i=acc.length:=by omega
      subst hie;have a:x=o:=by
        have:=hr 0;simp[ho]at this;exact this
      subst a;have b:(acc++ [G7 acc x]).getD acc.length 0=G7 acc x:=by simp[AgX]
      rw[b]at ht;obtain⟨e,he,hb,hx⟩:=OT ht;refine⟨e,he,hb,hx.imp id (fun h2=> ?_)⟩;by_cases hl:e.on<acc.length
      · exact⟨hl,by rw[keep _ hl];exact h2⟩
      · simp[AgX,AdY (show acc.length≤e.on by omega)]at h2

def Jf(l:List Adb)(o:Adb):List Tmp:=o.dst.toList++o.looksAt l.toArray
def Cw(l:List Adb)(size:Nat):Bool:=
  let m:=AL l []
  l.zipIdx.all fun(o,j)=>
    (o.after.all fun e=> !Ad1 .any e||e.on<j) &&
    (match o.dst with | some d=>decide (d<size) | none=>true) &&
    l.zipIdx.all fun(p,i)=>decide (j≤i)||((match p.dst with | some d=> !(Jf l o).contains d | none=>true)&&(match o.dst with | some d=> !(Jf l p).contains d | none=>true))||(m.getD j 0).testBit i
structure GY (l : List Adb) (size : Nat) : Prop where
  back:∀(j:Nat) (o:Adb),l[j]? =some o→∀e∈o.after,Ad1 .any e=true→e.on<j
  room:∀(j:Nat) (o:Adb) (d:Tmp),l[j]? =some o→o.dst=some d→d<size
  tied:∀(j:Nat) (o:Adb) (i:Nat) (p:Adb) (d:Tmp),l[j]? =some o→l[i]? =some p→i<j→(p.dst=some d∧d∈Jf l o∨o.dst=some d∧d∈Jf l p)→((AL l []).getD j 0).testBit i=true
theorem Gb{l:List Adb}{size:Nat}(h:Cw l size=true):GY l size:=by
  unfold Cw at h;simp only[Adv]at h;have hz:∀j o,l[j]? =some o→(o,j)∈l.zipIdx:=fun j o ho=>by
    rw[Ahf];exact ho
  refine⟨fun j o ho e he hb=> ?_,fun j o d ho hd=> ?_,fun j o i p d ho hp hij hx=> ?_⟩
  · have:=h _ (hz j o ho);simp only[AdT]at this;have h2:=Array.all_eq_true_iff_forall_mem.1 this.1.1 e he
    simpa [hb] using h2
  · have:=h _ (hz j o ho);simp only[AdT,hd]at this
    simpa using this.1.2
  · have:=h _ (hz j o ho);simp only[AdT,Adv]at this;have h2:=this.2 _ (hz i p hp);simp only[AeF,decide_eq_true_eq,AdT]at h2;rcases h2 with (h2 | h2) | h2
    · omega
    · exfalso;rcases hx with ⟨h3,h4⟩ | ⟨h3,h4⟩
      · have h5:=h2.1;rw[h3]at h5;simp at h5;exact h5 h4
      · have h5:=h2.2;rw[h3]at h5;simp at h5;exact h5 h4
    · exact h2

def CJ(l:List Adb)(kill:Nat→List Nat):Bool:=
  let m:=AL l []
  l.zipIdx.all fun(o,j)=>(AdN l.length).all fun n=>decide (n=j)||(kill n).all fun k=>(m.getD n 0).testBit j||(o.looksAt l.toArray).all fun t=>Dc l t j != some k
theorem WC{l:List Adb}{kill:Nat→List Nat}(h:CJ l kill=true)(j n k:Nat)(o:Adb)(t:Tmp)(ho:l[j]? =some o)(hn:n<l.length)(hne:n≠j)(hk:k∈kill n)(ht:t∈o.looksAt l.toArray)(hw:Dc l t j=some k):((AL l []).getD n 0).testBit j=true:=by
  unfold CJ at h;simp only[Adv]at h;have h1:=h (o,j) (by rw[Ahf];exact ho) n (by simpa using hn);simp only[AeF,decide_eq_true_eq,hne,false_or,Adv]at h1;rcases h1 k hk with h2 | h2
  · exact h2
  · have:=h2 t ht;simp[hw]at this

section
variable {P : Adg} {l : List Adb} {kill : Nat → List Nat} {C : Nat → AcK → Prop} {E : Array Bool → AcK → Prop} {R : Nat → AcK → AcK → Prop} {Φ : Nat → Bm} {a0 : Act}
def On(listed:Array Bool)(i:Nat):Prop:=listed.getD i false=true
theorem On.lt{listed:Array Bool}{i:Nat}(h:On listed i):i<listed.size:=by
  unfold On at h;rcases Nat.lt_or_ge i listed.size with h' | h'
  · exact h'
  · simp[AfZ h']at h
theorem on_set{listed:Array Bool}{i j:Nat}(hi:i<listed.size):On (listed.setIfInBounds i true) j↔j=i∨On listed j:=by
  unfold On;by_cases h:i=j
  · subst h;simp[hi]
  · simp[AfL h,AgY h]
structure Inv (l : List Adb) (kill : Nat → List Nat) (C : Nat → AcK → Prop) (E : Array Bool → AcK → Prop) (Φ : Nat → Bm) (a0 : Act) (listed : Array Bool) (a : Act) (w : AcK) : Prop where
  size:listed.size=l.length
  closed:∀i o,l[i]? =some o→On listed i→∀e∈o.after,Ad1 .any e=true→On listed e.on
  defers:a.defers=a0.defers
  tmps:a.tmps.size=a0.tmps.size
  cls:∀n,n<l.length→¬On listed n→C n w
  ecl:E listed w
  old:∀t,(∀k o,l[k]? =some o→o.dst=some t→¬On listed k)→a.tmps.getD t undef=a0.tmps.getD t undef
  new:∀t k o,l[k]? =some o→o.dst=some t→On listed k→(∀k' o',k<k' →l[k']? =some o' →o'.dst=some t→¬On listed k')→(∀n,On listed n→k∉kill n)→Φ k (a.tmps.getD t undef) w
theorem Inv.mask{listed:Array Bool}{a:Act}{w:AcK}(h:Inv l kill C E Φ a0 listed a w):
    ∀(i k:Nat),On listed i→((AL l []).getD i 0).testBit k=true→On listed k:=by
  intro i
  induction i using Ae0 with
  | _ i ih=>
    intro k hi hk;have hlt:i<l.length:=by have:=hi.lt;rw[h.size]at this;exact this
    have ho:l[i]? =some l[i]:=AcS hlt;obtain⟨e,he,hb,hx⟩:=JV l l [] (by simp) (by simp) (fun i o k hi=>by simp at hi) i l[i] k ho hk;have hon:=h.closed i _ ho hi e he hb;rcases hx with rfl | ⟨b,ht⟩
    · exact hon
    · exact ih e.on b k hon ht
theorem Inv.maskReady{listed:Array Bool}{a:Act}{w:AcK}(h:Inv l kill C E Φ a0 listed a w){i:Nat}{o:Adb}(ho:l[i]? =some o) 
    (hall:∀e∈o.after,Ad1 .any e=true→On listed e.on) {k:Nat} (hk:((AL l []).getD i 0).testBit k=true):On listed k:=by
  obtain⟨e,he,hb,hx⟩:=JV l l [] (by simp) (by simp) (fun i o k hi=>by simp at hi) i o k ho hk;have hon:=hall e he hb;rcases hx with rfl | ⟨_,ht⟩
  · exact hon
  · exact h.mask _ _ hon ht
theorem JA{t:Tmp}:∀(n:Nat),Dc l t n=none→∀(k:Nat) (o:Adb),k<n→l[k]? =some o→o.dst≠some t
  | 0,_,k,o,hk,_=>by omega
  | n+1,h,k,o,hk,ho=>by
    unfold Dc at h;split at h
    · cases h
    · rename_i hne
      by_cases hkn:k=n
      · subst hkn;intro hd;simp[ho,hd]at hne
      · exact JA n h k o (by omega) ho
theorem DV{t:Tmp}{k:Nat}:∀(n:Nat),Dc l t n=some k→k<n∧(∃o,l[k]? =some o∧o.dst=some t)∧∀(k' :Nat) (o' :Adb),k<k' →k' <n→l[k']? =some o' →o'.dst≠some t
  | 0,h=>by cases h
  | n+1,h=>by
    unfold Dc at h;split at h
    · rename_i he
      have hkn:n=k:=Adu h;subst hkn;refine⟨by omega,?_,fun k' o' h1 h2=>by omega⟩;cases ho:l[n]? with
      | none=>simp[ho]at he
      | some o=>exact⟨o,rfl,by simpa [ho] using he⟩
    · rename_i hne
      obtain⟨h1,h2,h3⟩:=DV n h;refine⟨by omega,h2,fun k' o' hk hk' ho' hd=> ?_⟩;by_cases he:k' =n
      · subst he;simp[ho',hd]at hne
      · exact h3 k' o' hk (by omega) ho' hd
theorem Inv.look(g:GY l a0.tmps.size)(hkl:CJ l kill=true){listed:Array Bool}{a:Act}{w:AcK}(h:Inv l kill C E Φ a0 listed a w){i:Nat}{o:Adb}(ho:l[i]? =some o)(hi:¬On listed i) 
    (hall:∀e∈o.after,Ad1 .any e=true→On listed e.on) (t:Tmp) (ht:t∈o.looksAt l.toArray):Ge l Φ a0.tmps i t (a.tmps.getD t undef) w:=by
  have hlate:∀k o',i≤k→l[k]? =some o' →o'.dst=some t→¬On listed k:=fun k o' hk ho' hd hon=>by
    by_cases he:k=i
    · subst he;exact hi hon
    · exact hi (h.mask k i hon (g.tied k o' i o t ho' ho (by omega) (.inr ⟨hd,Aex _ ht⟩)))
  unfold Ge;split
  · rename_i hw
    refine h.old t fun k o' ho' hd hon=> ?_;by_cases hk:k<i
    · exact JA _ hw k o' hk ho' hd
    · exact hlate k o' (by omega) ho' hd hon
  · rename_i k hw
    obtain⟨hk,⟨ok,hok,hdk⟩,hno⟩:=DV _ hw;refine h.new t k ok hok hdk (h.maskReady ho hall (g.tied i o k ok t ho hok hk (.inl ⟨hdk,Aex _ ht⟩))) (fun k' o' hkk ho' hd=> ?_) (fun n hon hkn=> ?_)
    · by_cases hki:k' <i
      · exact absurd hd (hno k' o' hkk hki ho')
      · exact hlate k' o' (by omega) ho' hd
    · have hne:n≠i:=fun e=>hi (e▸hon);exact hi (h.mask n i hon (WC hkl i n k o t ho (by have:=hon.lt;rw[h.size]at this;exact this) hne hkn ht hw))
theorem Inv.put(g:GY l a0.tmps.size)(hC:∀n m,n<l.length→m<l.length→n≠m→((AL l []).getD n 0).testBit m=false→∀w w',C m w→R n w w' →C m w')(hE:∀n listed w w',n<l.length→listed.size=l.length→¬On listed n→(∀i k,On listed i∨i=n→((AL l []).getD i 0).testBit k=true→On listed k)→E listed w→R n w w' →E (listed.setIfInBounds n true) w')(hΦ:∀n i,n<l.length→i<l.length→i∉kill n→i≠n→((AL l []).getD i 0).testBit n=false→∀v w w',Φ i v w→R n w w' →Φ i v w'){listed:Array Bool}{a:Act}{w:AcK}(h:Inv l kill C E Φ a0 listed a w){i:Nat}{o:Adb}(ho:l[i]? =some o)(hi:¬On listed i) 
    (hall:∀e∈o.after,Ad1 .any e=true→On listed e.on) {v:AcJ} {w' :AcK} (hR:R i w w') (hv:Φ i v w'):Inv l kill C E Φ a0 (listed.setIfInBounds i true) (a.put o.dst v) w' :=by
  have hil:i<listed.size:=by rw[h.size];exact(Adc.1 ho).1
  have hget:∀t,o.dst≠some t→(a.put o.dst v).tmps.getD t undef=a.tmps.getD t undef:=fun t ht=>by
    cases hd:o.dst with
    | none=>rfl
    | some d=>
      have hne:d≠t:=fun e=>ht (by rw[hd,e]);simp[AhH,AfL hne]
  have hilen:i<l.length:=(Adc.1 ho).1;refine⟨by simpa using h.size,fun j oj hj hon e he hb=> ?_,?_,?_,fun m hm hno=> ?_,hE i listed w w' hilen h.size hi (fun j k hj hk=>hj.elim (fun hj=>h.mask j k hj hk) (fun hj=>by subst hj;exact h.maskReady ho hall hk)) h.ecl hR,fun t ht=> ?_,fun t k ok hk hd hon hlast hkl=> ?_⟩
  · rcases(on_set hil).1 hon with rfl | hon
    · obtain rfl:o=oj:=by rw[ho]at hj;exact Adu hj
      exact(on_set hil).2 (.inr (hall e he hb))
    · exact(on_set hil).2 (.inr (h.closed j oj hj hon e he hb))
  · cases hd:o.dst <;> exact h.defers
  · cases hd:o.dst with
    | none=>exact h.tmps
    | some d=>simpa [AhH] using h.tmps
  · have hnm:i≠m:=fun e=>hno ((on_set hil).2 (.inl e.symm));have hoff:¬On listed m:=fun h' =>hno ((on_set hil).2 (.inr h'));refine hC i m hilen hm hnm ?_ _ _ (h.cls m hm hoff) hR;cases hb:((AL l []).getD i 0).testBit m with
    | false=>rfl
    | true=>exact absurd (h.maskReady ho hall hb) hoff
  · have hne:o.dst≠some t:=fun hd=>ht i o ho hd ((on_set hil).2 (.inl rfl));rw[hget t hne];exact h.old t fun k ok hk hd hon=>ht k ok hk hd ((on_set hil).2 (.inr hon))
  · by_cases hdt:o.dst=some t
    · by_cases hki:k=i
      · subst hki;have hroom:=g.room k o t ho hdt;have:(a.put o.dst v).tmps.getD t undef=v:=by
          rw[hdt];simp[AhH,h.tmps,hroom]
        rw[this];exact hv
      · exfalso;rcases(on_set hil).1 hon with he | hon
        · exact hki he
        · rcases Nat.lt_or_gt_of_ne hki with hlt | hgt
          · exact hlast i o hlt ho hdt ((on_set hil).2 (.inl rfl))
          · exact hi (h.mask k i hon (g.tied k ok i o t hk ho hgt (.inl ⟨hdt,Afv _ (by simp[hd])⟩)))
    · have hki:k≠i:=fun e=>by subst e;rw[ho]at hk;cases hk;exact hdt hd
      rw[hget t hdt];have hkon:On listed k:=((on_set hil).1 hon).resolve_left hki;have hmf:((AL l []).getD k 0).testBit i=false:=by
        cases hb:((AL l []).getD k 0).testBit i with
        | false=>rfl
        | true=>exact absurd (h.mask k i hkon hb) hi
      refine hΦ i k (Adc.1 ho).1 (Adc.1 hk).1 (hkl i ((on_set hil).2 (.inl rfl))) hki hmf _ _ _ (h.new t k ok hk hd (((on_set hil).1 hon).resolve_left hki) (fun k' o' hkk ho' hd' hon' => ?_) (fun n hn=>hkl n ((on_set hil).2 (.inr hn)))) hR;exact hlast k' o' hkk ho' hd' ((on_set hil).2 (.inr hon'))

theorem LZ(a:Act)(o:Adb):Bj l o (fun t=>a.tmps.getD t undef)=Ad8 o (yielded l.toArray a.tmps):=by
  unfold Bj Ad8 yielded;cases hg:o.guard with
  | none=>rfl
  | some gw=>
    obtain⟨g,want⟩:=gw;simp only[AdG];cases hd:(l[g]?).bind (·.dst)with
    | none=>simp
    | some t=>
      simp only[Ae4];cases hx:a.tmps[t]? with
      | none=>simp[Ady,hx,undef]
      | some x=>cases x <;> simp[Ady,hx]

theorem Inv.step(g:GY l a0.tmps.size)(hkl:CJ l kill=true)(hC:∀n m,n<l.length→m<l.length→n≠m→((AL l []).getD n 0).testBit m=false→∀w w',C m w→R n w w' →C m w')(hE:∀n listed w w',n<l.length→listed.size=l.length→¬On listed n→(∀i k,On listed i∨i=n→((AL l []).getD i 0).testBit k=true→On listed k)→E listed w→R n w w' →E (listed.setIfInBounds n true) w')(hΦ:∀n i,n<l.length→i<l.length→i∉kill n→i≠n→((AL l []).getD i 0).testBit n=false→∀v w w',Φ i v w→R n w w' →Φ i v w')(hRr:∀n o w,l[n]? =some o→o.guard.isSome=true→R n w w){listed:Array Bool}{a:Act}{w:AcK}(h:Inv l kill C E Φ a0 listed a w){i:Nat}{o:Adb}(ho:l[i]? =some o)(hi:¬On listed i) 
    (hall:∀e∈o.after,Ad1 .any e=true→On listed e.on) (hs:Gf P l C R Φ a0.tmps i o) {K:Act→AcK→Prop} {Q:Afj→Act→AcK→Prop}
    (hK:∀a' w',Inv l kill C E Φ a0 (listed.setIfInBounds i true) a' w' →K a' w'):wpOp P l.toArray Q i K a w:=by
  have hst:=hs (fun t=>a.tmps.getD t undef) w (h.cls i (Adc.1 ho).1 hi) (fun t ht=>h.look g hkl ho hi hall t ht);rw[LZ,evalR_eq]at hst;unfold wpOp;simp only[AdG,ho];by_cases hw:Ad8 o (yielded l.toArray a.tmps)=true
  · rw[if_pos hw]at hst ⊢;refine .inl ?_;unfold Afn
    generalize (execOp a.eval o).run P w=r at hst ⊢
    cases r with
    | halt x w' =>exact hst.elim
    | ok n w' =>
      cases n <;> simp only[Yk]at hst <;> simp only[AfQ]
      case value v=>exact hK _ _ (h.put g hC hE hΦ ho hi hall hst.1 hst.2)
      case skip=>exact hK _ _ (h.put g hC hE hΦ ho hi hall hst.1 hst.2)
      case enter f args=>
        refine hst.mono fun e w'' hx=> ?_;obtain⟨v,rfl,h1,h2⟩:=hx;exact hK _ _ (h.put g hC hE hΦ ho hi hall h1 h2)
  · rw[if_neg hw]at hst ⊢;have hgs:o.guard.isSome=true:=by
      cases hgo:o.guard with
      | none=>exact absurd (by unfold Ad8;rw[hgo]) hw
      | some x=>rfl
    exact hK _ _ (h.put g hC hE hΦ ho hi hall (hRr i o w ho hgs) hst)

theorem EY:∀(L:List Bool) (i:Nat),L[i]? =some false→((L.set i true).filter (!·)).length+1=(L.filter (!·)).length
  | [],i,h=>by simp at h
  | x :: L,0,h=>by simp at h;subst h;simp
  | x :: L,i+1,h=>by
    have ih:=EY L i (by simpa using h);cases x <;> simp <;> omega
theorem E1:∀(L:List Bool),(L.filter (!·)).length=0→∀i:Nat,i<L.length→L[i]? =some true
  | [],_,i,h=>by simp at h
  | x :: L,h0,i,h=>by
    cases x
    · simp at h0
    · cases i with
      | zero=>rfl
      | succ i=>
        rw[Aem];exact E1 L (by simpa using h0) i (by simpa using h)

theorem XY(g:GY l a0.tmps.size)(hkl:CJ l kill=true)(hC:∀n m,n<l.length→m<l.length→n≠m→((AL l []).getD n 0).testBit m=false→∀w w',C m w→R n w w' →C m w')(hE:∀n listed w w',n<l.length→listed.size=l.length→¬On listed n→(∀i k,On listed i∨i=n→((AL l []).getD i 0).testBit k=true→On listed k)→E listed w→R n w w' →E (listed.setIfInBounds n true) w')(hΦ:∀n i,n<l.length→i<l.length→i∉kill n→i≠n→((AL l []).getD i 0).testBit n=false→∀v w w',Φ i v w→R n w w' →Φ i v w')(hRr:∀n o w,l[n]? =some o→o.guard.isSome=true→R n w w)(hs:StepsOk P l C R Φ a0.tmps 0 l){Q:Afj→Act→AcK→Prop} 
    (hQ:∀listed a' w',(∀i,i<l.length→On listed i)→Inv l kill C E Φ a0 listed a' w' →Q .normal a' w'):
    ∀(fuel:Nat) (listed:Array Bool) (a:Act) (w:AcK),(listed.toList.filter (!·)).length=fuel→Inv l kill C E Φ a0 listed a w→wpAny P .any l.toArray Q fuel listed a w:=by
  have full:∀(listed:Array Bool) (a:Act) (w:AcK),Inv l kill C E Φ a0 listed a w→AdV .any l.toArray listed= []→∀i,i<l.length→On listed i:=by
    intro listed a w h hr i
    induction i using Ae0 with
    | _ i ih=>
      intro hi;refine AdW fun hno=> ?_;have ho:l[i]? =some l[i]:=AcS hi;have:i∈AdV .any l.toArray listed:=by
        refine mem_ready.2 ⟨?_,l[i],by rw[AdG];exact ho,fun e he hb=> ?_⟩
        · have hi' :i<listed.size:=by rw[h.size];exact hi
          unfold On at hno;simp[hi']at hno ⊢;exact hno
        · have hlt:=g.back i _ ho e he hb;exact ih e.on hlt (by omega)
      rw[hr]at this;cases this
  intro fuel
  induction fuel with
  | zero=>
    intro listed a w hf h;have hon:∀i,i<l.length→On listed i:=fun i hi=>by
      have:=E1 _ hf i (by rw[Aew,h.size];exact hi);unfold On;simp at this;simp[this]
    have hr:AdV .any l.toArray listed= []:=by
      cases hr:AdV .any l.toArray listed with
      | nil=>rfl
      | cons x xs=>
        exfalso;have hm:x∈AdV .any l.toArray listed:=by rw[hr];simp
        obtain⟨h1,o,ho,_⟩:=mem_ready.1 hm;have hx:x<l.length:=by simpa using (Ade.1 ho).1
        have h2:=hon x hx;have hx' :x<listed.size:=h2.lt;unfold On at h2;simp[hx']at h1 h2;rw[h1]at h2;cases h2
    exact⟨hr,hQ _ _ _ hon h⟩
  | succ fuel ih=>
    intro listed a w hf h;refine⟨fun hr=>hQ _ _ _ (full listed a w h hr) h,fun i hi=> ?_⟩;obtain⟨h1,o,ho,hall⟩:=mem_ready.1 hi;have ho' :l[i]? =some o:=by simpa using ho
    have hil:i<listed.size:=by rw[h.size];exact(Adc.1 ho').1
    have hno:¬On listed i:=by
      unfold On;simp[hil]at h1 ⊢;exact h1
    have hst:=hs.get l 0 i o ho';rw[Ad4]at hst;refine h.step g hkl hC hE hΦ hRr ho' hno (fun e he hb=>hall e he hb) hst fun a' w' h' =>ih _ _ _ ?_ h';rw[Ae1];have:=EY listed.toList i (by
      simp[hil]at h1;simp[hil,h1])
    omega

def slotsW(l:List Adb):List Tmp:=(l.filterMap (·.dst)).eraseDups
def Dm(T:Array AcJ)(ds:List Tmp)(u:Tmp→AcJ):Array AcJ:=ds.foldl (fun T d=>T.setIfInBounds d (u d)) T
theorem Dn(u:Tmp→AcJ):∀(ds:List Tmp) (T:Array AcJ),(Dm T ds u).size=T.size
  | [],T=>rfl
  | d :: ds,T=>by unfold Dm;rw[AfP];exact(Dn u ds _).trans (by simp)
theorem Io(u:Tmp→AcJ)(t:Tmp):∀(ds:List Tmp) (T:Array AcJ),t<T.size→(Dm T ds u).getD t undef=if t∈ds then u t else T.getD t undef
  | [],T,_=>by simp[Dm]
  | d :: ds,T,ht=>by
    have ih:=Io u t ds (T.setIfInBounds d (u d)) (by simpa using ht);unfold Dm at ih ⊢;rw[AfP,ih];by_cases h1:t∈ds
    · simp[h1]
    · by_cases h2:t=d
      · subst h2;simp[h1,ht]
      · simp[h1,h2,AfL (AgY h2)]
def Bd(l:List Adb)(kill:Nat→List Nat)(Φ:Nat→Bm)(u:Tmp→AcJ)(w:AcK):List Tmp→Prop
  | []=>True
  | d :: ds=>(match Dc l d l.length with | some k=>if(AdN l.length).all (fun n=> !(kill n).contains k)=true then Φ k (u d) w else True | none=>True)∧Bd l kill Φ u w ds
theorem ED{u:Tmp→AcJ}{w:AcK}(h:∀d k,Dc l d l.length=some k→(AdN l.length).all (fun n=> !(kill n).contains k)=true→Φ k (u d) w):∀ds,Bd l kill Φ u w ds
  | []=>trivial
  | d :: ds=>⟨by split;(split;(exact h d _ ‹_› ‹_›);trivial);trivial,ED h ds⟩

theorem XZ(T:Array AcJ)(df:List Deferred){Q:Afj→Act→AcK→Prop}(ds:List Tmp)(hds:slotsW l=ds) 
    (hQ:∀(u:Tmp→AcJ) listed w',(∀i,i<l.length→On listed i)→E listed w' →Bd l kill Φ u w' ds→Q .normal { tmps:=Dm T ds u,defers:=df } w'):
    ∀listed a' w',(∀i,i<l.length→On listed i)→Inv l kill C E Φ { tmps:=T,defers:=df } listed a' w' →Q .normal a' w' :=by
  intro listed a' w' hon h;have hw:∀d k,Dc l d l.length=some k→(AdN l.length).all (fun n=> !(kill n).contains k)=true→Φ k (a'.tmps.getD d undef) w' :=fun d k hk hall=>by
    obtain⟨h1,⟨o,ho,hd⟩,h3⟩:=DV _ hk;refine h.new d k o ho hd (hon k h1) (fun k' o' hkk ho' hd' _=>h3 k' o' hkk (Adc.1 ho').1 ho' hd') (fun n hn hkn=> ?_);have hnl:n<l.length:=by have:=hn.lt;rw[h.size]at this;exact this
    have:=Adv.1 hall n (by simpa using hnl);simp at this;exact this hkn
  have hq:=hQ (fun t=>a'.tmps.getD t undef) listed w' hon h.ecl (ED hw ds);have he:a' = { tmps:=Dm T ds (fun t=>a'.tmps.getD t undef),defers:=df } :=by
    have h1:a'.tmps=Dm T ds (fun t=>a'.tmps.getD t undef):=by
      apply Array.ext (by rw[Dn];exact h.tmps)
      intro t ht1 ht2;have ht3:t<T.size:=by rw[Dn]at ht2;exact ht2
      have hx:=Io (fun t=>a'.tmps.getD t undef) t ds T ht3;have a:∀(A:Array AcJ) (ht:t<A.size),A.getD t undef=A[t]:=fun A ht=>by
        rw[Ady,Afw ht,AdI]
      rw[a _ ht2]at hx;by_cases hn:t∈ds
      · rw[if_pos hn,a _ ht1]at hx;exact hx.symm
      · rw[if_neg hn,a _ ht3]at hx;have ho:a'.tmps.getD t undef=T.getD t undef:=h.old t fun k o ho hd _=>hn (by
          rw[←hds];unfold slotsW;rw[AfR,AeI];exact⟨o,AdX ho,hd⟩)
        rw[a _ ht1,a _ ht3]at ho;exact ho.trans hx.symm
    have h2:=h.defers;cases a';simp only at h1 h2;subst h2;rw[←h1]
  rw[he];exact hq
theorem Ep(kill:Nat→List Nat)(C:Nat→AcK→Prop)(E:Array Bool→AcK→Prop)(R:Nat→AcK→AcK→Prop)(Φ:Nat→Bm){id:Nat}{Q:Afj→Act→AcK→Prop}{w:AcK}(hm:P.follows .mixedOrders=true)(T:Array AcJ)(df:List Deferred) 
    (hg:Cw l T.size=true) (hkl:CJ l kill=true) (ds:List Tmp) (hds:slotsW l=ds) (hC:∀n m,n<l.length→m<l.length→n≠m→((AL l []).getD n 0).testBit m=false→∀w w',C m w→R n w w' →C m w') (hE:∀n listed w w',n<l.length→listed.size=l.length→¬On listed n→(∀i k,On listed i∨i=n→((AL l []).getD i 0).testBit k=true→On listed k)→E listed w→R n w w' →E (listed.setIfInBounds n true) w') (hΦ:∀n i,n<l.length→i<l.length→i∉kill n→i≠n→((AL l []).getD i 0).testBit n=false→∀v w w',Φ i v w→R n w w' →Φ i v w') (hRr:∀n o w,l[n]? =some o→o.guard.isSome=true→R n w w)
    (h0:∀n,n<l.length→C n { w with drawn:=w.drawn+1 }) (h1:E (Aeq l.toArray.size false) { w with drawn:=w.drawn+1 })
    (hs:StepsOk P l C R Φ T 0 l)
    (hQ:∀(u:Tmp→AcJ) listed w',(∀i,i<l.length→On listed i)→E listed w' →Bd l kill Φ u w' ds→Q .normal { tmps:=Dm T ds u,defers:=df } w'):(AgP id l.toArray true).wp P Q { tmps:=T,defers:=df } w:=by
  have g:=Gb hg;refine wp_region_any hm (XY (a0:= { tmps:=T,defers:=df }) g hkl hC hE hΦ hRr hs (fun listed a' w' hon h=> ?_) _ _ _ _ (by simp) ?_)
  · exact XZ T df ds hds hQ listed a' w' hon h
  · have hno:∀i,¬On (Aeq l.toArray.size false) i:=fun i h=>by
      unfold On at h;rw[Ady,Aea]at h;split at h <;> simp at h
    exact⟨Agd,fun i o _ h=>absurd h (hno i),rfl,rfl,fun n hn _=>h0 n hn,h1,fun t _=>rfl,fun t k o _ _ h=>absurd h (hno k)⟩
theorem GB(kill:Nat→List Nat)(C:AcK→Prop)(R:Nat→AcK→AcK→Prop)(Φ:Nat→Bm){id:Nat}{Q:Afj→Act→AcK→Prop}{w:AcK}(hm:P.follows .mixedOrders=true)(T:Array AcJ)(df:List Deferred) 
    (hg:Cw l T.size=true) (hkl:CJ l kill=true) (ds:List Tmp) (hds:slotsW l=ds) (hC:∀n w w',C w→R n w w' →C w') (hΦ:∀n i,n<l.length→i<l.length→i∉kill n→i≠n→((AL l []).getD i 0).testBit n=false→∀v w w',Φ i v w→R n w w' →Φ i v w') (hRr:∀n o w,l[n]? =some o→o.guard.isSome=true→R n w w) (h0:C { w with drawn:=w.drawn+1 })
    (hs:StepsOk P l (fun _=>C) R Φ T 0 l)
    (hQ:∀(u:Tmp→AcJ) w',C w' →Bd l kill Φ u w' ds→Q .normal { tmps:=Dm T ds u,defers:=df } w'):(AgP id l.toArray true).wp P Q { tmps:=T,defers:=df } w:=
  Ep kill (fun _=>C) (fun _=>C) R Φ hm T df hg hkl ds hds (fun n _ _ _ _ _=>hC n) (fun n _ w w' _ _ _ _=>hC n w w') hΦ hRr (fun _ _=>h0) h0 hs (fun u _ w' _=>hQ u w')
theorem Gg{C:Nat→AcK→Prop}{R:Nat→AcK→AcK→Prop}{T:Array AcJ}{n:Nat}{o:Adb}(hg:o.guard=none) 
    (h:∀ρ w,C n w→(∀t∈o.looksAt l.toArray,Ge l Φ T n t (ρ t) w)→Yk P (fun v w' =>R n w w' ∧Φ n v w') ((execOp (Aa ρ) o).run P w)):Gf P l C R Φ T n o:=by
  intro ρ w hC hl;have:Bj l o ρ=true:=by unfold Bj;rw[hg]
  rw[if_pos this];exact h ρ w hC hl
theorem Yk.value{K:AcJ→AcK→Prop}{r:AhI Next}{v:AcJ}{w' :AcK}(hr:r = .ok (.value v) w')(h:K v w'):Yk P K r:=by rw[hr];exact h
theorem Yk.enter{K:AcJ→AcK→Prop}{r:AhI Next}{f:AeB}{args:Array AcJ}{w' :AcK}(hr:r = .ok (.enter f args) w')(h:Calls P f args w' fun e w'' =>∃v,e = .returned v∧K v w''):Yk P K r:=by rw[hr];exact h
end
def Plain(P:Adg)(f:AeB):Prop:=∀xs w,(callFunc f xs).run P w = .ok (.enter f xs) w
theorem Ip{P:Adg}{f:AeB}(hp:Plain P f)(ρ:AcW→AcJ)(args:List AcW)(at_:Array AcR)(dst:Option Tmp)(ty:AcR)(pos:String)(af:Array AdL)(gd:Option (Nat × Bool))(w:AcK) 
    (hρ:ρ (.func f) = .func (.func f) #[] #[]):(execOp ρ ⟨dst, .call ⟨.value (.func f),args.toArray,at_⟩,ty,pos,af,gd⟩).run P w = .ok (.enter f (args.map ρ).toArray) w:=by
  simp[execOp,resolve,invoke,AfA,hρ,hp _ w]
theorem Yk.call{P:Adg}{K:AcJ→AcK→Prop}{f:AeB}(hp:Plain P f){ρ:Tmp→AcJ}{args:List AcW}{at_:Array AcR}{dst:Option Tmp}{ty:AcR}{pos:String}{af:Array AdL}{gd:Option (Nat × Bool)}{w:AcK} 
    (h:Calls P f (args.map (Aa ρ)).toArray w fun e w'' =>∃v,e = .returned v∧K v w''):Yk P K ((execOp (Aa ρ) ⟨dst, .call ⟨.value (.func f),args.toArray,at_⟩,ty,pos,af,gd⟩).run P w):=
  Yk.enter (Ip hp (Aa ρ) args at_ dst ty pos af gd w rfl) h

def Stab(R:AcK→AcK→Prop)(φ:Bm):Prop:=∀v w w',φ v w→R w w' →φ v w'
theorem ZD{R:AcK→AcK→Prop}(v:AcJ):Stab R (Is v):=fun _ _ _ h _=>h
theorem Stab.any{R:AcK→AcK→Prop}:Stab R (fun _ _=>True):=fun _ _ _ _ _=>trivial
def AllStab(R:AcK→AcK→Prop):List Bm→Prop
  | []=>True
  | φ :: r=>Stab R φ∧AllStab R r
theorem L0{R:AcK→AcK→Prop}{a b:AcJ}{Φs:List Bm}(h:AllStab R Φs):AllStab R (Is a :: Is b :: Φs):=⟨ZD _,ZD _,h⟩
theorem X0{R:AcK→AcK→Prop}{a b c e:AcJ}{Φs:List Bm}(h:AllStab R Φs):AllStab R (Is a :: Is b :: Is c :: Is e :: Φs):=⟨ZD _,ZD _,ZD _,ZD _,h⟩
theorem Y7{R:AcK→AcK→Prop}{a b c e f g:AcJ}{Φs:List Bm}(h:AllStab R Φs):AllStab R (Is a :: Is b :: Is c :: Is e :: Is f :: Is g :: Φs):=⟨ZD _,ZD _,ZD _,ZD _,ZD _,ZD _,h⟩
theorem Y8{R:AcK→AcK→Prop}{a b c e f g i j k:AcJ}{Φs:List Bm}(h:AllStab R Φs):AllStab R (Is a :: Is b :: Is c :: Is e :: Is f :: Is g :: Is i :: Is j :: Is k :: Φs):=⟨ZD _,ZD _,ZD _,ZD _,ZD _,ZD _,ZD _,ZD _,ZD _,h⟩
theorem Uf{R:AcK→AcK→Prop}{a b c e f g i j k l:AcJ}{Φs:List Bm}(h:AllStab R Φs):AllStab R (Is a :: Is b :: Is c :: Is e :: Is f :: Is g :: Is i :: Is j :: Is k :: Is l :: Φs):=⟨ZD _,ZD _,ZD _,ZD _,ZD _,ZD _,ZD _,ZD _,ZD _,ZD _,h⟩
theorem X1{R:AcK→AcK→Prop}{a b c e f g i j k l m n:AcJ}{Φs:List Bm}(h:AllStab R Φs):AllStab R (Is a :: Is b :: Is c :: Is e :: Is f :: Is g :: Is i :: Is j :: Is k :: Is l :: Is m :: Is n :: Φs):=⟨ZD _,ZD _,ZD _,ZD _,ZD _,ZD _,ZD _,ZD _,ZD _,ZD _,ZD _,ZD _,h⟩
theorem AllStab.get{R:AcK→AcK→Prop}:∀(Φs:List Bm),AllStab R Φs→∀i,Stab R (Φs.getD i (fun _ _=>True))
  | [],_,i=>by simpa using Stab.any
  | φ :: r,h,0=>h.1
  | φ :: r,h,i+1=>by simpa using AllStab.get r h.2 i
def AQ(Φs:List Bm)(i:Nat):Bm:=Φs.getD i (fun _ _=>True)
def Ext(w w' :AcK):Prop:=Below w.heap.size w w'
theorem Ext.refl(w:AcK):Ext w w:=AdC _ _
theorem Ext.trans{a b c:AcK}(h:Ext a b)(k:Ext b c):Ext a c:=Aic h (k.mono h.size)

theorem MT{P:Adg}{l:List Adb}(Φs:List Bm){id:Nat}{Q:Afj→Act→AcK→Prop}{w:AcK}(hm:P.follows .mixedOrders=true)(T:Array AcJ)(df:List Deferred) 
    (hg:Cw l T.size=true) (ds:List Tmp) (hds:slotsW l=ds) (hst:AllStab Ext Φs) (hs:StepsOk P l (fun _=>Ext w) (fun _=>Ext) (AQ Φs) T 0 l)
    (hQ:∀(u:Tmp→AcJ) w',Ext w w' →Bd l (fun _=> []) (AQ Φs) u w' ds→Q .normal { tmps:=Dm T ds u,defers:=df } w'):(AgP id l.toArray true).wp P Q { tmps:=T,defers:=df } w:=
  GB (fun _=> []) (Ext w) (fun _=>Ext) (AQ Φs) hm T df hg
    (by unfold CJ;simp) ds hds (fun _ _ _ h k=>h.trans k) (fun _ i _ _ _ _ _=>hst.get Φs i) (fun _ _ w _ _=>Ext.refl w) (AdC _ _).drew hs hQ
def FU(l:List Adb)(n:Nat):Bool:=l.length==n+1&&(AdN n).all fun m=>((AL l []).getD n 0).testBit m
theorem FD{l:List Adb}{n:Nat}(h:FU l n=true):l.length=n+1∧∀m,m<n→((AL l []).getD n 0).testBit m=true:=by
  unfold FU at h;simp only[AdT,beq_iff_eq,Adv,AgG]at h;exact h
theorem Aal{n i:Nat}:¬On (Aeq n false) i:=fun h=>by
  unfold On at h;rw[Ady,Aea]at h;split at h <;> simp at h
open Classical in
theorem YI{l:List Adb}{n:Nat}(hn:FU l n=true){S:AcK→AcK→Prop}{w:AcK}(k:Nat)(listed:Array Bool)(w1 w' :AcK)(hk:k<l.length)(hsz:listed.size=l.length)(hoff:¬On listed k) 
    (hm:∀i j,On listed i∨i=k→((AL l []).getD i 0).testBit j=true→On listed j) (hE:if On listed n then ∃w2,Ext w w2∧S w2 w1 else Ext w w1) (hR:(if k=n then S else Ext) w1 w'):
    if On (listed.setIfInBounds k true) n then ∃w2,Ext w w2∧S w2 w' else Ext w w' :=by
  obtain⟨hl,hb⟩:=FD hn;by_cases hkn:k=n
  · subst hkn;rw[if_neg hoff]at hE;rw[if_pos rfl]at hR;by_cases h:On (listed.setIfInBounds k true) k
    · rw[if_pos h];exact⟨_,hE,hR⟩
    · exact absurd ((on_set (by omega)).2 (.inl rfl)) h
  · have hno:¬On listed n:=fun h=>hoff (hm n k (.inl h) (hb k (by omega)));rw[if_neg hno]at hE;rw[if_neg hkn]at hR;rw[if_neg]
    · exact hE.trans hR
    · intro h;exact((on_set (by omega)).1 h).elim (fun e=>hkn e.symm) hno
open Classical in
theorem Kw{P:Adg}{l:List Adb}(n:Nat)(S:AcK→AcK→Prop)(Φs:List Bm){id:Nat}{Q:Afj→Act→AcK→Prop}{w:AcK}(hm:P.follows .mixedOrders=true)(T:Array AcJ)(df:List Deferred) 
    (hg:Cw l T.size=true) (hn:FU l n=true) (ds:List Tmp) (hds:slotsW l=ds) (hSr:(l[n]?.bind (·.guard))=none) (hst:AllStab Ext Φs) (hsS:AllStab S Φs) (hs:StepsOk P l (fun _=>Ext w) (fun k=>if k=n then S else Ext) (AQ Φs) T 0 l)
    (hQ:∀(u:Tmp→AcJ) w1 w',Ext w w1→S w1 w' →Bd l (fun _=> []) (AQ Φs) u w' ds→Q .normal { tmps:=Dm T ds u,defers:=df } w'):(AgP id l.toArray true).wp P Q { tmps:=T,defers:=df } w:=by
  obtain⟨hl,hb⟩:=FD hn;refine Ep (fun _=> []) (fun _=>Ext w) (fun listed w' =>if On listed n then ∃w2,Ext w w2∧S w2 w' else Ext w w') (fun k=>if k=n then S else Ext) (AQ Φs) hm T df hg (by unfold CJ;simp) ds hds
    (fun k m hk hm hne hbit w1 w' hc hr=> ?_) (fun k listed w1 w' hk hsz hoff hm hE hR=>YI hn k listed w1 w' hk hsz hoff hm hE hR) (fun k i _ _ _ _ _ v w1 w' => ?_) (fun k o w1 ho hgo=> ?_) (fun _ _=>(AdC _ _).drew) (by rw[if_neg Aal];exact(AdC _ _).drew) hs (fun u listed w' hall hE=> ?_)
  · by_cases hkn:k=n
    · subst hkn;rw[hb m (by omega)]at hbit;cases hbit
    · rw[if_neg hkn]at hr;exact hc.trans hr
  · by_cases hkn:k=n
    · rw[if_pos hkn];exact hsS.get Φs i v w1 w'
    · rw[if_neg hkn];exact hst.get Φs i v w1 w'
  · by_cases hkn:k=n
    · subst hkn;rw[ho]at hSr;simp only[Ae4]at hSr;rw[hSr]at hgo;cases hgo
    · rw[if_neg hkn];exact Ext.refl w1
  · rw[if_pos (hall n (by omega))]at hE;obtain⟨w1,h1,h2⟩:=hE;exact hQ u w1 w' h1 h2
def Ni(l:List Adb)(k:Nat):Bool:=((AdN k).all fun m=>((AL l []).getD k 0).testBit m)&&((AdN l.length).all fun i=>decide (i≤k)||((AL l []).getD i 0).testBit k)
theorem Nj{l:List Adb}{k:Nat}(h:Ni l k=true):(∀m,m<k→((AL l []).getD k 0).testBit m=true)∧∀i,k<i→i<l.length→((AL l []).getD i 0).testBit k=true:=by
  unfold Ni at h;simp only[AdT,Adv,AgG,AeF,decide_eq_true_eq]at h;exact⟨h.1,fun i hi hl=>(h.2 i hl).resolve_left (by omega)⟩
theorem MU{P:Adg}{l:List Adb}(k:Nat)(Φs:List Bm){id:Nat}{Q:Afj→Act→AcK→Prop}{w:AcK}(hm:P.follows .mixedOrders=true)(T:Array AcJ)(df:List Deferred) 
    (hg:Cw l T.size=true) (hk:Ni l k=true) (ds:List Tmp) (hds:slotsW l=ds) (hst:AllStab Ext Φs) (hsT:AllStab (fun _ _=>True) (Φs.take k)) (hgk:(l[k]?.bind (·.guard))=none)
    (hs:StepsOk P l (fun m=>if m≤k then Ext w else fun _=>True) (fun n=>if n=k then fun _ _=>True else Ext) (AQ Φs) T 0 l)
    (hQ:∀(u:Tmp→AcJ) w',Bd l (fun _=> []) (AQ Φs) u w' ds→Q .normal { tmps:=Dm T ds u,defers:=df } w'):(AgP id l.toArray true).wp P Q { tmps:=T,defers:=df } w:=by
  have hm1:=Nj hk;refine Ep (fun _=> []) (fun m=>if m≤k then Ext w else fun _=>True) (fun _ _=>True) (fun n=>if n=k then fun _ _=>True else Ext) (AQ Φs) hm T df hg (by unfold CJ;simp) ds hds
    (fun n m hn hm hne hbit w1 w' hc hr=> ?_) (fun _ _ _ _ _ _ _ _ _ _=>trivial) (fun n i hn hi _ hine hbit v w1 w' => ?_) (fun n o w1 ho hgo=> ?_) (fun n _=> ?_) trivial hs (fun u listed w' _ _=>hQ u w')
  · by_cases hmk:m≤k
    · rw[if_pos hmk]at hc ⊢;by_cases hnk:n=k
      · subst hnk;rw[hm1.1 m (by omega)]at hbit;cases hbit
      · rw[if_neg hnk]at hr;exact hc.trans hr
    · rw[if_neg hmk];trivial
  · by_cases hnk:n=k
    · rw[if_pos hnk];subst hnk;by_cases hik:i<n
      · have:=hsT.get _ i v w1 w';rw[show AQ Φs i=(Φs.take n).getD i (fun _ _=>True) by simp[AQ,AcO,hik]];exact this
      · rw[hm1.2 i (by omega) hi]at hbit;cases hbit
    · rw[if_neg hnk];exact hst.get Φs i v w1 w'
  · by_cases hnk:n=k
    · subst hnk;rw[ho]at hgk;simp only[Ae4]at hgk;rw[hgk]at hgo;cases hgo
    · rw[if_neg hnk];exact Ext.refl w1
  · by_cases hnk:n≤k
    · rw[if_pos hnk];exact(AdC _ _).drew
    · rw[if_neg hnk];trivial
theorem Lw{P:Adg}{l:List Adb}(ks:List Nat)(kill:Nat→List Nat)(C:AcK→Prop)(Rk:AcK→AcK→Prop)(Φs:List Bm){id:Nat}{Q:Afj→Act→AcK→Prop}{w:AcK}(hm:P.follows .mixedOrders=true)(T:Array AcJ)(df:List Deferred) 
    (hg:Cw l T.size=true) (hkl:CJ l kill=true) (ds:List Tmp) (hds:slotsW l=ds) (hC:∀w w',C w→Ext w w' →C w') (hCk:∀w w',C w→Rk w w' →C w') (hRk:∀w,Rk w w) (h0:C w.drew) (hst:AllStab Ext Φs)
    (hsk:∀n i,n∈ks→i<l.length→i∉kill n→i≠n→((AL l []).getD i 0).testBit n=false→Stab Rk (AQ Φs i))
    (hs:StepsOk P l (fun _=>C) (fun n=>if n∈ks then Rk else Ext) (AQ Φs) T 0 l)
    (hQ:∀(u:Tmp→AcJ) w',C w' →Bd l kill (AQ Φs) u w' ds→Q .normal { tmps:=Dm T ds u,defers:=df } w'):(AgP id l.toArray true).wp P Q { tmps:=T,defers:=df } w:=by
  refine GB kill C (fun n=>if n∈ks then Rk else Ext) (AQ Φs) hm T df hg hkl ds hds (fun n w w' h k=> ?_) (fun n i _ hi hk hne hb=> ?_) (fun n _ w _ _=> ?_) h0 hs hQ
  · by_cases hn:n∈ks
    · rw[if_pos hn]at k;exact hCk _ _ h k
    · rw[if_neg hn]at k;exact hC _ _ h k
  · by_cases hn:n∈ks
    · rw[if_pos hn];exact hsk n i hn hi hk hne hb
    · rw[if_neg hn];exact hst.get Φs i
  · by_cases hn:n∈ks
    · rw[if_pos hn];exact hRk w
    · rw[if_neg hn];exact Ext.refl w
variable {P : Adg}
theorem Nk{w:AcK}{src dst e:AcR}(hs:P.underlying src=some (.slice e))(he:P.underlying e=some (.int .u8))(hd:P.underlying dst=some .string){v:AcJ}{l:List UInt8}(h:RB w v l):
    (convert src dst v).run P w = .ok (.string ⟨l.toArray⟩) w:=by
  obtain⟨h1,ao,cap,rfl,h2,h3,h4,h5⟩:=h;cases ao with
  | none=>
    obtain⟨h6,rfl⟩:=h4 rfl;have:l= []:=Adw h6;subst this;rw[run_convert_bytes_string w src dst e _ _ _ hs he hd];simp[Conv.bytesToString,Ac3];rfl
  | some a=>exact run_convert_bytes_back w src dst e a cap l hs he hd (fun j hj=>h5 a rfl j _ (by simp[AcL,hj]))
theorem OU{ops:Array Adb}{rest:List Adb}{o:Adb}{a:Act}{w:AcK}{Q:Afj→Act→AcK→Prop}(hgd:o.guard=none)(src dst:AcR)(x:AcW)(ho:o.op = .convert src dst x) 
    {e:AcR} (hs:P.underlying src=some (.slice e)) (he:P.underlying e=some (.int .u8)) (hd:P.underlying dst=some .string) (v:AcJ) (l:List UInt8) (hx:a.eval x=v) (h:RB w v l)
    (hK:wpList P ops Q rest (a.put o.dst (.string ⟨l.toArray⟩)) w):wpList P ops Q (o :: rest) a w:=
  wpList_plain hgd fun K hK' =>by
    have hr:=Nk (P:=P) hs he hd h;unfold Afn execOp;simp only[ho,hx,hr,Ac1,Ac3,AcV];exact hK' _ _ hK

theorem Nl(a b:List UInt8):(⟨a.toArray⟩:ByteArray)++⟨b.toArray⟩=⟨(a++b).toArray⟩:=by
  apply ByteArray.ext
  rw[ByteArray.data_append];simp
theorem AbR{K:AcJ→AcK→Prop}{ρ:Tmp→AcJ}{t ty2:AcR}{x y:AcW}{d:Option Tmp}{ty:AcR}{pos:String}{af:Array AdL}{gd:Option (Nat × Bool)}{w:AcK}{l1 l2:List UInt8} 
    (hx:Aa ρ x = .string ⟨l1.toArray⟩) (hy:Aa ρ y = .string ⟨l2.toArray⟩) (hb:l1.length+l2.length≤9223372036854775807) (hk:K (.string ⟨(l1++l2).toArray⟩) w):Yk P K ((execOp (Aa ρ) ⟨d, .binOp .add t x y ty2,ty,pos,af,gd⟩).run P w):=by
  refine Yk.value (v:= .string ⟨(l1++l2).toArray⟩) (w' :=w) ?_ hk;have hr:=run_string_add_sum (P:=P) (w:=w) ⟨l1.toArray⟩ ⟨l2.toArray⟩ (show l1.toArray.size+l2.toArray.size≤_ from hb);rw[Nl]at hr;simp[execOp,hx,hy,eqGuard,binOp,hr]

theorem Yk.append{K:AcJ→AcK→Prop}{ρ:Tmp→AcJ}(s x:AcW){t tx:AcR}{d:Option Tmp}{ty:AcR}{pos:String}{af:Array AdL}{gd:Option (Nat × Bool)}{w:AcK} 
    (base:Nat) (e:AcR) (z:AcJ) (size bytes:Nat) (ht:P.underlying t=some (.slice e)) (hi:(P.info? e).map (fun i=>(i.zero,i.size,i.bytes))=some (some z,size,bytes)) (hzs:z.cells.size=size)
    (n:Nat) (xs:List AcJ) (hown:w.ownsRow base e size (Aa ρ s) n xs) (m:Nat) (news:List AcJ) (hsrc:Src P size tx (Aa ρ x) m news w)
    (h63:n+m≤maxLen) (hbytes:(n+m)*bytes≤140737488355328) (hbase:base≤w.heap.size)
    (h:∀v' w',w'.ownsRow base e size v' (n+m) (xs++news)→Grew w w' (Aa ρ s) v' →K v' w'):
    Yk P K ((execOp (Aa ρ) ⟨d, .call ⟨.builtin .append,[s,x].toArray,[t,tx].toArray⟩,ty,pos,af,gd⟩).run P w):=by
  obtain⟨i,hi,hz,hsize,hby⟩:=info_parts hi;obtain⟨v',w',hr,h2,h3⟩:=Fk (P:=P) w base t tx ty e i z size bytes ht hi hz hsize hby hzs (Aa ρ s) n xs hown (Aa ρ x) m news hsrc h63 hbytes hbase;refine Yk.value (v:=v') (w' :=w') ?_ (h v' w' h2 h3);unfold execOp;simp only[resolve,invoke,builtin,Ac1,Ac3,AcV,Ads,Ado,AdA,hr]

theorem Stab.rb(l:List UInt8):Stab Ext (fun x w=>RB w x l):=fun _ _ _ h k=>h.keep k
theorem Ext.grown{w w' :AcK}(h:Ext w w'):w.grownBy w' none:=⟨h.os,h.tape,h.output,h.size,fun k hk _=>h.block k hk⟩
theorem AaQ{w w' :AcK}(h:w.grownBy w' none):Ext w w' :=(AdC _ _).grown h (AcP _) (fun k hk=>by cases hk)
theorem Stab.own(base:Nat)(e:AcR)(size:Nat)(n:Nat)(xs:List AcJ):Stab Ext (fun x w=>w.ownsRow base e size x n xs):=fun v _ _ h k=>h.kept k.grown (by cases v.ownBlock <;> simp)
theorem NewB.ext{e:AcR}{w w' :AcK}{v:AcJ}{l:List UInt8}(h:NewB e w w' v l):Ext w w' :=h.below

theorem Ext.blk'{w w' :AcK}(h:Ext w w'){b:Nat}{o:Obj}(hb:w.heap[b]? =some o):w'.heap[b]? =some o:=
  (h.block b (Ade.1 hb).1).trans hb
theorem eb{w w' :AcK}(h:Ext w w'){b:Nat}{o:Obj}(hb:w.heap[b]? =some o):w'.heap[b]? =some o:=Ext.blk' h hb
theorem Abk{K:AcJ→AcK→Prop}{ρ:Tmp→AcJ}(s x:AcW){dT sT elem:AcR}{d:Option Tmp}{ty:AcR}{pos:String}{af:Array AdL}{gd:Option (Nat × Bool)}{w:AcK} 
    (hu:P.underlying dT=some (.slice elem)) (hsz:(P.info? elem).map (·.size)=some 1) {g o dLen dCap:Nat} (hs:Aa ρ s = .slice (some ⟨g,o,none⟩) dLen dCap) {l:List UInt8} (hx:RB w (Aa ρ x) l)
    {cur:Array AcJ} {t:AcR} (hg:w.heap[g]? =some (.cells cur t (0,0))) (hfit:o+AfN l.length dLen≤cur.size)
    (h:K (goInt (AfN l.length dLen)) (w.setRow g (cur.toList.take o++AcL (l.take dLen)++cur.toList.drop (o+AfN l.length dLen)).toArray)):
    Yk P K ((execOp (Aa ρ) ⟨d, .call ⟨.builtin .copy,[s,x].toArray,[dT,sT].toArray⟩,ty,pos,af,gd⟩).run P w):=by
  obtain⟨h1,ao,cap,hv,h2,h3,h4,h5⟩:=hx;have hlen:(AcL (l.take dLen)).length=AfN l.length dLen:=by rw[AcZ,Ac8];exact AiO _ _
  refine Yk.value (v:=goInt (AfN l.length dLen)) (w' :=w.setRow g (cur.toList.take o++AcL (l.take dLen)++cur.toList.drop (o+AfN l.length dLen)).toArray) ?_ h;have hrun:(Builtin.copy_ #[dT,sT] ty #[.slice (some ⟨g,o,none⟩) dLen dCap, .slice ao l.length cap]).run P w = .ok (goInt (AfN l.length dLen)) (w.setRow g (cur.toList.take o++AcL (l.take dLen)++cur.toList.drop (o+AfN l.length dLen)).toArray):=by
    cases ao with
    | none=>
      obtain⟨h6,rfl⟩:=h4 rfl;have:l= []:=Adw h6;subst this;have hr:=run_copy_nil (P:=P) w dT sT ty elem ⟨g,o,none⟩ dLen dCap hu (by rw[hsz];rfl);have e:(cur.toList.take o++AcL ([].take dLen)++cur.toList.drop (o+AfN ([]:List UInt8).length dLen)).toArray=cur:=by
        simp[AcL]
      rw[e,setRow_self w g cur t (0,0) hg]
      simpa using hr
    | some a=>
      have hr:=run_copy_row (P:=P) w dT sT ty elem g o dLen dCap a l.length cap cur t (AcL (l.take dLen)) hu hsz hg hlen (fun j v hj=>h5 a rfl j v (by
        have hj' :=hj;simp only[AcL,Ahr,AeS]at hj';split at hj'
        · exact hj'
        · cases hj')) (by rw[hlen];exact hfit) (Af _)
      rw[hlen]at hr;exact hr
  unfold execOp;simp only[resolve,invoke,builtin,Ac1,Ac3,AcV,Ads,Ado,AdA,hs,hv,hrun]

theorem Iq{ops:Array Adb}{rest:List Adb}{o:Adb}{a:Act}{w:AcK}{Q:Afj→Act→AcK→Prop}(hgd:o.guard=none)(v:AcJ)(w' :AcK)(hr:(execOp a.eval o).run P w = .ok (.value v) w') 
    (h:wpList P ops Q rest (a.put o.dst v) w'):wpList P ops Q (o :: rest) a w:=
  wpList_plain hgd fun K hK=>by
    unfold Afn;rw[hr];exact hK _ _ h
/-! ### Whole arrays and structs in blocks of their own -/
theorem GC(w:AcK)(g:Nat)(ty:AcR)(cells cur:Array AcJ)(t:AcR)(hg:w.heap[g]? =some (.cells cur t (0,0)))(hs:cells.size=cur.size)(hi:(P.info? ty).map (·.size)=some cells.size)(h1:∀v∈cells.toList,v.oneCell' =true):
    (Afq ty (.pointer (some ⟨g,0,none⟩)) (.agg cells)).run P w = .ok () (w.setRow g cells):=by
  have hst:=run_storeCells_at P g 0 t cells.toList 0 cur w hg (by simp[hs]) h1;have e:(cur.toList.take (0+0)++cells.toList++cur.toList.drop (0+0+cells.toList.length)).toArray=cells:=by
    simp;rw[AdR (by simp[hs])];simp
  rw[e]at hst;cases hq:P.info? ty with
  | none=>simp[hq]at hi
  | some i=>
    have hs:cells.size=i.size:=by simp[hq]at hi;omega
    simp[Afq,Aff,storeVar,sizeOf,typeInfo,hq,Ahm,hs,hst]
theorem JW{ops:Array Adb}{rest:List Adb}{o:Adb}{a:Act}{w:AcK}{Q:Afj→Act→AcK→Prop}(hgd:o.guard=none)(ty:AcR)(x y:AcW)(ho:o.op = .store ty x y) 
    (g:Nat) (hx:a.eval x = .pointer (some ⟨g,0,none⟩)) (cells cur:Array AcJ) (t:AcR) (hy:a.eval y = .agg cells) (hg:w.heap[g]? =some (.cells cur t (0,0))) (hs:cells.size=cur.size) (hi:(P.info? ty).map (·.size)=some cells.size) (h1:∀v∈cells.toList,v.oneCell' =true)
    (h:wpList P ops Q rest (a.put o.dst undef) (w.setRow g cells)):wpList P ops Q (o :: rest) a w:=
  wpList_plain hgd fun K hK=>by
    have hr:=GC (P:=P) w g ty cells cur t hg hs hi h1;unfold Afn execOp;simp only[ho,hx,hy,hr,Ac1,Ac3,AcV];exact hK _ _ h
theorem FT{ops:Array Adb}{rest:List Adb}{o:Adb}{a:Act}{w:AcK}{Q:Afj→Act→AcK→Prop}(hgd:o.guard=none)(ty:AcR)(x y:AcW)(ho:o.op = .store ty x y) 
    (g:Nat) (hx:a.eval x = .pointer (some ⟨g,0,none⟩)) (cells:Array AcJ) (t:AcR) (hy:a.eval y = .agg cells) (hg:w.heap[g]? =some (.cells cells t (0,0))) (hi:(P.info? ty).map (·.size)=some cells.size) (h1:∀v∈cells.toList,v.oneCell' =true)
    (h:wpList P ops Q rest (a.put o.dst undef) w):wpList P ops Q (o :: rest) a w:=
  JW hgd ty x y ho g hx cells cells t hy hg rfl hi h1 (by rw[setRow_self w g cells t (0,0) hg];exact h)
theorem If{fn:AfB}{p q r:Tmp}{ty:AcR}(h:fn.results = #[.cell p ty, .tmp q, .tmp r])(tmps:Array AcJ)(w:AcK)(g:Nat)(t:AcR)(cs:Array AcJ)(fr:Nat × Nat)(d:TypeDesc) 
    (hp:tmps.getD p undef = .pointer (some ⟨g,0,none⟩)) (hg:w.heap[g]? =some (.cells cs t fr))
    (hu:P.underlying ty=some d) (hd:(match d with | .struct _ | .array _ _=>true | _=>false)=true) (hi:(P.info? ty).map (·.size)=some cs.size):
    (results fn tmps).run P w = .ok (.tuple #[.agg cs,tmps.getD q undef,tmps.getD r undef]) w:=by
  have hp' :tmps[p]?.getD undef = .pointer (some ⟨g,0,none⟩):=by simpa using hp
  simp[results,h,hp',asAddr,run_loadVar_row w g t ty cs fr d hg hu hd hi]
/-! ### Slices of slices -/
theorem E2(a:Addr)(m n:Nat):(a.add m).add n=a.add (m+n):=by
  cases a with
  | mk b o sp=>
    unfold AeO;split <;> split <;> simp_all
    all_goals (try omega)
theorem Do{t e:AcR}{size:Nat}(ht:P.underlying t=some (.slice e))(he:∀w' :AcK,(sizeOf e).run P w' = .ok size w'){w:AcK}{v:AcJ}{n:Nat}{xs:List AcJ}(hr:Reads w size v n xs)(lo hi:Option AcJ)(l h:Nat)(hlh:l≤h)(hn:h≤n) 
    (hlo:lo=none∧l=0∨∃k,lo=some (.int k l)) (hhi:hi=none∧h=n∨∃k,hi=some (.int k h)):
    ∃ao c,((Agl t v lo hi none).run P w = .ok (.slice ao (h-l) c) w∧(AcU ao (h-l) c).ownBlock=v.ownBlock)∧Reads w size (.slice ao (h-l) c) (h-l) ((xs.drop (l*size)).take ((h-l)*size)):=by
  obtain⟨h1,ao,cap,rfl,h2,h3,h4,h5⟩:=hr;have hE:P.elem t=e:=by simp[Af5,ht]
  have ht' :P.underlying t=some (.slice (P.elem t)):=by rw[hE];exact ht
  refine⟨if cap=l then ao else ao.map (·.add (l*size)),cap-l,⟨?_,?_⟩,?_,_,_,rfl,by omega,by omega,?_,?_⟩
  · rw[run_sliceAt_slice (P:=P) w t _ _ _ _ ht'];have hl' :(l:Int)≤(h:Int):=by omega
    have hh' :(h:Int)≤(cap:Int):=by omega
    have hn' :(l:Int)≤(n:Int):=by omega
    rcases hlo with ⟨rfl,rfl⟩ | ⟨k,rfl⟩ <;> rcases hhi with ⟨rfl,rfl⟩ | ⟨k',rfl⟩
    · rw[run_slice_all (P:=P) w t ao h cap ht',hE,he];simp[AdH,sliced]
    · rw[run_slice_h (P:=P) w t ao n cap ht' k' h (by omega) hh',hE,he];simp[AdH,sliced]
    · rw[run_slice_l (P:=P) w t ao h cap ht' k l (by omega) hl',hE,he];simp[AdH,sliced]
    · rw[run_slice_lh (P:=P) w t ao n cap ht' k k' l h (by omega) hl' hh',hE,he];simp[AdH,sliced]
  · cases ao with
    | none=>simp[AcT]
    | some x=>
      split
      · rfl
      · simp only[Aeb,AcT,Aey];unfold AeO;split <;> rfl
  · rw[Ac8,Ac5,h1];have:(h-l)*size≤n*size-l*size:=by rw[←Nat.sub_mul];exact Agc _ (by omega)
    omega
  · intro hnone;have:ao=none:=by
      cases ao with
      | none=>rfl
      | some x=>split at hnone <;> simp at hnone
    obtain⟨h6,h7⟩:=h4 this;omega
  · intro a ha j u hu;have hj:j<((xs.drop (l*size)).take ((h-l)*size)).length:=(Adc.1 hu).1;have hj2:j<(h-l)*size:=by rw[Ac8]at hj;omega
    have hhl:h-l≠0:=fun e=>by rw[e]at hj2;simp at hj2
    rw[if_neg (by omega)]at ha;cases ao with
    | none=>simp at ha
    | some x=>
      simp at ha;subst ha;rw[E2];refine h5 x rfl _ _ ?_;rw[AeS,if_pos hj2,Agv]at hu;exact hu
theorem Jy{t e:AcR}{size:Nat}(ht:P.underlying t=some (.slice e))(he:∀w' :AcK,(sizeOf e).run P w' = .ok size w'){w:AcK}{v:AcJ}{n:Nat}{xs:List AcJ}(hr:Reads w size v n xs)(lo hi:Option AcJ)(l h:Nat)(hlh:l≤h)(hn:h≤n) 
    (hlo:lo=none∧l=0∨∃k,lo=some (.int k l)) (hhi:hi=none∧h=n∨∃k,hi=some (.int k h)):
    ∃ao c,(Agl t v lo hi none).run P w = .ok (.slice ao (h-l) c) w∧Reads w size (.slice ao (h-l) c) (h-l) ((xs.drop (l*size)).take ((h-l)*size)):=by
  obtain⟨ao,c,h1,h2⟩:=Do ht he hr lo hi l h hlh hn hlo hhi;exact⟨ao,c,h1.1,h2⟩
theorem AaD{w:AcK}{v:AcJ}{xs:List UInt8}{l h:Nat}(hn:h≤xs.length)(hR:Reads w 1 v (h-l) (((AcL xs).drop (l*1)).take ((h-l)*1))):RB w v ((xs.drop l).take (h-l)):=by
  have a:((xs.drop l).take (h-l)).length=h-l:=by rw[Ac8,Ac5];omega
  unfold RB;rw[a];have b:AcL ((xs.drop l).take (h-l))=((AcL xs).drop (l*1)).take ((h-l)*1):=by
    simp[AcL,Ahr,Aiy]
  rw[b];exact hR
theorem RB.kept{w w' :AcK}{v:AcJ}{l:List UInt8}(h:RB w v l){row:Option Nat}(hg:w.grownBy w' row)(hv:v.ownBlock=none∨v.ownBlock≠row):RB w' v l:=by
  obtain⟨h1,ao,cap,rfl,h2,h3,h4,h5⟩:=h;refine⟨h1,ao,cap,rfl,h2,h3,h4,fun a ha j u hu=> ?_⟩;have hc:=h5 a ha j u hu;subst ha;have hlt:=Ad7 w _ hc;have hbl:(a.add j).block=a.block:=by unfold AeO;split <;> rfl
  have hne:(some a.block)≠row:=by
    rcases hv with hv | hv
    · cases hv
    · exact hv
  rw[hbl]at hlt;rw[Ain (w:=w) (by rw[hbl];exact hg.block a.block hlt hne)];exact hc
theorem Ug{w w' :AcK}(h:w.grownBy w' none)(row:Option Nat):w.grownBy w' row:=⟨h.os,h.tape,h.output,h.size,fun k hk _=>h.block k hk (by simp)⟩
theorem JB{t e:AcR}(ht:P.underlying t=some (.slice e))(he:∀w' :AcK,(sizeOf e).run P w' = .ok 1 w'){w:AcK}{v:AcJ}{xs:List UInt8}(hr:RB w v xs)(lo hi:Option AcJ)(l h:Nat)(hlh:l≤h)(hn:h≤xs.length) 
    (hlo:lo=none∧l=0∨∃k,lo=some (.int k l)) (hhi:hi=none∧h=xs.length∨∃k,hi=some (.int k h)):
    ∃ao c,(Agl t v lo hi none).run P w = .ok (.slice ao (h-l) c) w∧RB w (.slice ao (h-l) c) ((xs.drop l).take (h-l)):=by
  obtain⟨ao,c,hrun,hR⟩:=Jy ht he hr lo hi l h hlh hn hlo hhi;refine⟨ao,c,hrun,?_⟩;have a:((xs.drop l).take (h-l)).length=h-l:=by rw[Ac8,Ac5];omega
  unfold RB;rw[a];have b:AcL ((xs.drop l).take (h-l))=((AcL xs).drop (l*1)).take ((h-l)*1):=by
    simp[AcL,Ahr,Aiy]
  rw[b];exact hR
theorem G8{ops:Array Adb}{rest:List Adb}{o:Adb}{a:Act}{w:AcK}{Q:Afj→Act→AcK→Prop}(hgd:o.guard=none)(t:AcR)(x:AcW)(lo hi:Option AcW)(ho:o.op = .slice t x lo hi none) 
    {e:AcR} (ht:P.underlying t=some (.slice e)) (he:∀w' :AcK,(sizeOf e).run P w' = .ok 1 w') (v:AcJ) (xs:List UInt8) (hx:a.eval x=v) (hr:RB w v xs) (l h:Nat) (hlh:l≤h) (hn:h≤xs.length)
    (hlo:lo.map a.eval=none∧l=0∨∃k,lo.map a.eval=some (.int k l)) (hhi:hi.map a.eval=none∧h=xs.length∨∃k,hi.map a.eval=some (.int k h))
    (hK:∀ao c,RB w (.slice ao (h-l) c) ((xs.drop l).take (h-l))→wpList P ops Q rest (a.put o.dst (.slice ao (h-l) c)) w):wpList P ops Q (o :: rest) a w:=
  wpList_plain hgd fun K hK' =>by
    obtain⟨ao,c,hrun,hR⟩:=JB ht he hr (lo.map a.eval) (hi.map a.eval) l h hlh hn hlo hhi;unfold Afn execOp;simp only[ho,hx,AeG,hrun,Ac1,Ac3,AcV];exact hK' _ _ (hK ao c hR)
theorem RB.open_{w:AcK}{v:AcJ}{l:List UInt8}(h:RB w v l)(hl:0<l.length):∃b off cap,v = .slice (some ⟨b,off,none⟩) l.length cap∧l.length≤cap∧cap≤9223372036854775807∧b<w.heap.size∧∀i,i<l.length→w.cell? ⟨b,off+i,none⟩=some (.int .u8 ((l.getD i 0).toNat:Int)):=by
  obtain⟨h1,ao,cap,rfl,h2,h3,h4,h5⟩:=h;cases ao with
  | none=>have:=(h4 rfl).1;omega
  | some a=>
    obtain⟨b,off,sp⟩:=a;have hc:∀i,i<l.length→w.cell? ((⟨b,off,sp⟩:Addr).add i)=some (.int .u8 ((l.getD i 0).toNat:Int)):=fun i hi=>h5 _ rfl i _ (by simp[AcL,hi]);have hsp:sp=none:=by
      have:=hc 0 hl
      simpa [AeO] using AfC this
    subst hsp;refine⟨b,off,cap,rfl,h2,by simpa [maxLen] using h3,Ad7 w _ (hc 0 hl),fun i hi=> ?_⟩;have:=hc i hi
    rwa [Aek]at this
theorem AbF{K:AcJ→AcK→Prop}{ρ:Tmp→AcJ}{t e:AcR}{x:AcW}{lo hi:Option AcW}{d:Option Tmp}{ty:AcR}{pos:String}{af:Array AdL}{gd:Option (Nat × Bool)}{w:AcK} 
    (ht:P.underlying t=some (.slice e)) (he:∀w' :AcK,(sizeOf e).run P w' = .ok 1 w') {xs:List UInt8} (hr:RB w (Aa ρ x) xs) (l h:Nat) (hlh:l≤h) (hn:h≤xs.length)
    (hlo:lo.map (Aa ρ)=none∧l=0∨∃k,lo.map (Aa ρ)=some (.int k l)) (hhi:hi.map (Aa ρ)=none∧h=xs.length∨∃k,hi.map (Aa ρ)=some (.int k h))
    (hK:∀ao c,RB w (.slice ao (h-l) c) ((xs.drop l).take (h-l))→K (.slice ao (h-l) c) w):Yk P K ((execOp (Aa ρ) ⟨d, .slice t x lo hi none,ty,pos,af,gd⟩).run P w):=by
  obtain⟨ao,c,hrun,hR⟩:=JB ht he hr (lo.map (Aa ρ)) (hi.map (Aa ρ)) l h hlh hn hlo hhi;refine Yk.value (v:= .slice ao (h-l) c) (w' :=w) ?_ (hK ao c hR);unfold execOp;simp only[AeG,hrun,Ac1,Ac3,AcV]
abbrev Ad:=Tmp→AcJ
def Nn(ρ:Ad)(d:Tmp)(v:AcJ):Ad:=fun t=>cond (Ae9 t d) v (ρ t)
def updO(ρ:Ad)(d:Option Tmp)(v:AcJ):Ad:=match d with
  | none=>ρ
  | some d=>Nn ρ d v
structure Fits (n : Nat) (ρ : Ad) (a : Act) : Prop where
  size:a.tmps.size=n
  defers:a.defers= []
  get:∀t,a.tmps.getD t undef=ρ t
theorem Fits.eval{n:Nat}{ρ:Ad}{a:Act}(h:Fits n ρ a):a.eval=Aa ρ:=by
  funext x
  cases x with
  | tmp t=>exact h.get t
  | _=>rfl
theorem Fits.put{n:Nat}{ρ:Ad}{a:Act}(h:Fits n ρ a)(d:Option Tmp)(hd:∀t,d=some t→t<n)(v:AcJ):Fits n (updO ρ d v) (a.put d v):=by
  cases d with
  | none=>exact h
  | some d=>
    have hdn:=hd d rfl;refine⟨by simp[AhH,h.size],h.defers,fun t=> ?_⟩;have hg:=h.get t;simp only[updO,Nn,AhH,Ady,Aep,h.size]at hg ⊢;by_cases htd:t=d
    · subst htd;simp[hdn]
    · have hb:Ae9 t d=false:=by
        cases hb:Ae9 t d with
        | false=>rfl
        | true=>exact absurd (Afo hb) htd
      rw[hb,if_neg (fun e=>htd e.symm)];exact hg

theorem Ir{T:Array AcJ}{d:Nat}{b:Bool}(h:T.getD d undef = .bool b):T[d]? =some (.bool b):=by
  rw[Ady]at h;cases hx:T[d]? with
  | none=>rw[hx]at h;cases h
  | some x=>rw[hx]at h;simp at h;rw[h]
abbrev BE:=Afj→Ad→AcK→Prop
def B1(P:Adg)(n:Nat)(c:Ae5)(Q:BE)(ρ:Ad)(w:AcK):Prop:=
  ∀a,Fits n ρ a→c.wp P (fun e a' w' =>∃ρ',Fits n ρ' a' ∧Q e ρ' w') a w
def GD(K:Ad→AcK→Prop)(Q:BE):BE
  | .normal,ρ,w=>K ρ w
  | e,ρ,w=>Q e ρ w
def ET(id:Nat)(Q:BE):BE
  | .exit id',ρ,w=>if id' =id then Q .normal ρ w else Q (.exit id') ρ w
  | e,ρ,w=>Q e ρ w
def Px(Q:BE):BE
  | .goto _,_,_=>False
  | e,ρ,w=>Q e ρ w
section
variable {P : Adg} {n : Nat} {Q : BE} {ρ : Ad} {w : AcK}
theorem wpF_mono{c:Ae5}{Q' :BE}(h:B1 P n c Q ρ w)(hq:∀e ρ w,Q e ρ w→Q' e ρ w):B1 P n c Q' ρ w:=
  fun a ha=>wp_mono (h a ha) fun e _ w ⟨ρ',hf,hQ⟩=>⟨ρ',hf,hq e ρ' w hQ⟩
theorem DL(h:Q .normal ρ w):B1 P n .skip Q ρ w:=fun _ ha=>wp_skip ⟨ρ,ha,h⟩
theorem Uh{id:Nat}(h:Q (.exit id) ρ w):B1 P n (.exit id) Q ρ w:=fun _ ha=>wp_exit ⟨ρ,ha,h⟩
theorem Jg(h:Q .ret ρ w):B1 P n .ret Q ρ w:=fun _ ha=>wp_ret ⟨ρ,ha,h⟩
theorem Py{x y:Ae5}(h:B1 P n x (GD (B1 P n y Q) Q) ρ w):B1 P n (.seq x y) Q ρ w:=fun a ha=>
  wp_seq (wp_mono (h a ha) fun e a' w' ⟨ρ',hf,hQ⟩=>by
    cases e with
    | normal=>exact hQ a' hf
    | _=>exact⟨ρ',hf,hQ⟩)
theorem sk{x y:Ae5}(h:∀K:Ad→AcK→Prop,(∀ρ w,B1 P n y Q ρ w→K ρ w)→B1 P n x (GD K Q) ρ w):B1 P n (.seq x y) Q ρ w:=Py (h _ fun _ _ h=>h)
theorem EU{c:AcW}{x y:Ae5}(hc:Aa ρ c = .bool true)(h:B1 P n x Q ρ w):B1 P n (.cond c x y) Q ρ w:=fun a ha=>wp_cond_true (by rw[ha.eval];exact hc) (h a ha)
theorem CP{c:AcW}{x y:Ae5}(hc:Aa ρ c = .bool false)(h:B1 P n y Q ρ w):B1 P n (.cond c x y) Q ρ w:=fun a ha=>wp_cond_false (by rw[ha.eval];exact hc) (h a ha)
theorem Ui{c:AcW}{x y:Ae5}(p:Prop)[Decidable p](hc:Aa ρ c = .bool (decide p))(h1:p→B1 P n x Q ρ w)(h2:¬p→B1 P n y Q ρ w):B1 P n (.cond c x y) Q ρ w:=by
  by_cases hp:p
  · exact EU (by rw[hc,decide_eq_true hp]) (h1 hp)
  · exact CP (by rw[hc,decide_eq_false hp]) (h2 hp)
theorem RV{c:AcW}{x y:Ae5}(b:Bool)(hc:Aa ρ c = .bool b)(h1:b=true→B1 P n x Q ρ w)(h2:b=false→B1 P n y Q ρ w):B1 P n (.cond c x y) Q ρ w:=by
  cases b
  · exact CP hc (h2 rfl)
  · exact EU hc (h1 rfl)
theorem RW{id:Nat}{c:Ae5}(h:B1 P n c (ET id Q) ρ w):B1 P n (.block id c) Q ρ w:=fun a ha=>
  wp_block (wp_mono (h a ha) fun e a' w' ⟨ρ',hf,hQ⟩=>by
    cases e with
    | exit id' =>
      simp only[ET]at hQ;simp only[Exit.inBlock];split at hQ
      · rw[if_pos ‹_›];exact⟨ρ',hf,hQ⟩
      · rw[if_neg ‹_›];exact⟨ρ',hf,hQ⟩
    | _=>exact⟨ρ',hf,hQ⟩)
theorem RX{c:Ae5}(h:B1 P n c (Px Q) ρ w):B1 P n (.scope c) Q ρ w:=fun a ha=>
  wp_scope_straight (wp_mono (h a ha) fun e a' w' ⟨ρ',hf,hQ⟩=>by
    cases e with
    | goto l=>exact hQ
    | _=>exact⟨ρ',hf,hQ⟩)
theorem Uj{c:Ae5}(I:Ad→AcK→Prop)(μ:Ad→AcK→Nat)(h0:I ρ w) 
    (round:∀ρ w,I ρ w→B1 P n c (GD (fun ρ' w' =>I ρ' w' ∧μ ρ' w' <μ ρ w) Q) ρ w):B1 P n (.loop c) Q ρ w:=by
  intro a ha;refine wp_loop (fun a w=>∃ρ,Fits n ρ a∧I ρ w) (fun a w=>μ (fun t=>a.tmps.getD t undef) w) ⟨ρ,ha,h0⟩ ?_;rintro a w ⟨ρ,hf,hI⟩;have he:(fun t=>a.tmps.getD t undef)=ρ:=funext hf.get;refine wp_mono (round ρ w hI a hf) fun e a' w' ⟨ρ',hf',hQ⟩=> ?_;cases e with
  | normal=>exact⟨⟨ρ',hf',hQ.1⟩,by rw[he,show(fun t=>a'.tmps.getD t undef)=ρ' from funext hf'.get];exact hQ.2⟩
  | _=>exact⟨ρ',hf',hQ⟩

/-! ### A region in the order of the text, operation by operation -/
def Cf(P:Adg)(ops:Array Adb)(n:Nat)(Q:BE)(l:List Adb)(ρ:Ad)(w:AcK):Prop:=
  ∀a,Fits n ρ a→wpList P ops (fun e a' w' =>∃ρ',Fits n ρ' a' ∧Q e ρ' w') l a w
def Zs(l:List Adb)(n:Nat):Bool:=l.all fun o=>match o.dst with | some d=>AeC d n | none=>true
theorem wt{id:Nat}{l:List Adb}(h:Cf P l.toArray n Q l ρ w):B1 P n (.region id l.toArray false) Q ρ w:=fun a ha=>wp_region_lit (h a ha)
theorem oZ{ops:Array Adb}(h:Q .normal ρ w):Cf P ops n Q [] ρ w:=fun _ ha=>⟨ρ,ha,h⟩
theorem oS{ops:Array Adb}{rest:List Adb}{dst:Option Tmp}{op:Op}{ty:AcR}{pos:String}{af:Array AdL}(hd:(match dst with | some d=>AeC d n | none=>true)=true) 
    (h:Yk P (fun v w' =>Cf P ops n Q rest (updO ρ dst v) w') ((execOp (Aa ρ) ⟨dst,op,ty,pos,af,none⟩).run P w)):Cf P ops n Q (⟨dst,op,ty,pos,af,none⟩ :: rest) ρ w:=by
  intro a ha;have hdn:∀t,dst=some t→t<n:=fun t ht=>by subst ht;exact Ac2 hd
  refine wpList_plain rfl fun K hK=> ?_;unfold Afn AfQ;rw[ha.eval];have hput:=fun v=>ha.put dst hdn v
  revert h
  generalize (execOp (Aa ρ) ⟨dst,op,ty,pos,af,none⟩).run P w=r
  intro h
  match r,h with
  | .ok (.value v) w',h=>exact hK _ _ (h _ (hput v))
  | .ok .skip w',h=>exact hK _ _ (h _ (hput undef))
  | .ok (.enter f args) w',h=>
    refine AfS h ?_;rintro e w'' ⟨v,rfl,hk⟩;exact hK _ _ (hk _ (hput v))
theorem oY{ops:Array Adb}{rest:List Adb}{dst:Option Tmp}{op:Op}{ty:AcR}{pos:String}{af:Array AdL}{g:Nat}{want:Bool}{d:Tmp}(hd:(match dst with | some d=>AeC d n | none=>true)=true)(hg:(ops[g]?).bind (·.dst)=some d)(hv:ρ d = .bool want) 
    (h:Yk P (fun v w' =>Cf P ops n Q rest (updO ρ dst v) w') ((execOp (Aa ρ) ⟨dst,op,ty,pos,af,some (g,want)⟩).run P w)):Cf P ops n Q (⟨dst,op,ty,pos,af,some (g,want)⟩ :: rest) ρ w:=by
  intro a ha;have hdn:∀t,dst=some t→t<n:=fun t ht=>by subst ht;exact Ac2 hd
  have hw:Ad8 ⟨dst,op,ty,pos,af,some (g,want)⟩ (yielded ops a.tmps)=true:=by
    have:=Ir ((ha.get d).trans hv);simp only[Ad8,yielded,hg];simp[this]
  refine wpList_step fun K hK=> ?_;rw[if_pos hw];unfold Afn AfQ;rw[ha.eval];have hput:=fun v=>ha.put dst hdn v
  revert h
  generalize (execOp (Aa ρ) ⟨dst,op,ty,pos,af,some (g,want)⟩).run P w=r
  intro h
  match r,h with
  | .ok (.value v) w',h=>exact hK _ _ (h _ (hput v))
  | .ok .skip w',h=>exact hK _ _ (h _ (hput undef))
  | .ok (.enter f args) w',h=>
    refine AfS h ?_;rintro e w'' ⟨v,rfl,hk⟩;exact hK _ _ (hk _ (hput v))
theorem oN{ops:Array Adb}{rest:List Adb}{o:Adb}{g:Nat}{want b:Bool}{d:Tmp}(hgd:o.guard=some (g,want))(hd:(match o.dst with | some d=>AeC d n | none=>true)=true)(hg:(ops[g]?).bind (·.dst)=some d)(hv:ρ d = .bool b)(hb:(b==want)=false) 
    (h:Cf P ops n Q rest (updO ρ o.dst undef) w):Cf P ops n Q (o :: rest) ρ w:=by
  intro a ha;have hdn:∀t,o.dst=some t→t<n:=fun t ht=>by rw[ht]at hd;exact Ac2 hd
  have hw:Ad8 o (yielded ops a.tmps)=false:=by
    have:=Ir ((ha.get d).trans hv);simp only[Ad8,hgd,yielded,hg]
    simpa [this] using hb
  refine wpList_step fun K hK=> ?_;rw[if_neg (by rw[hw];simp)];exact hK _ _ (h _ (ha.put o.dst hdn undef))

/-! ### A region that draws its order, by facts -/
def Jh(l:List Adb)(Φ:Nat→Bm)(ρ:Ad)(n:Nat)(t:Tmp)(x:AcJ)(w:AcK):Prop:=
  match Dc l t n with
  | none=>x=ρ t
  | some k=>Φ k x w
def EL(P:Adg)(l:List Adb)(C:Nat→AcK→Prop)(R:Nat→AcK→AcK→Prop)(Φ:Nat→Bm)(ρ:Ad)(n:Nat)(o:Adb):Prop:=
  ∀(σ:Ad) (w:AcK),C n w→(∀t∈o.looksAt l.toArray,Jh l Φ ρ n t (σ t) w) →
    if Bj l o σ=true then Yk P (fun v w' =>R n w w' ∧Φ n v w') ((execOp (Aa σ) o).run P w)else Φ n undef w
def StepsF(P:Adg)(l:List Adb)(C:Nat→AcK→Prop)(R:Nat→AcK→AcK→Prop)(Φ:Nat→Bm)(ρ:Ad):Nat→List Adb→Prop
  | _,[]=>True
  | n,o :: r=>EL P l C R Φ ρ n o∧StepsF P l C R Φ ρ (n+1) r
theorem StepsF.ok{l:List Adb}{C:Nat→AcK→Prop}{R:Nat→AcK→AcK→Prop}{Φ:Nat→Bm}{T:Array AcJ}(hT:∀t,T.getD t undef=ρ t):∀(r:List Adb) (k:Nat),StepsF P l C R Φ ρ k r→StepsOk P l C R Φ T k r
  | [],_,_=>trivial
  | o :: r,k,h=>⟨fun σ w hC hl=>h.1 σ w hC (fun t ht=>by
      have:=hl t ht;unfold Ge at this;unfold Jh;split
      · rename_i e;rw[e]at this;rw[←hT];exact this
      · rename_i e;rw[e]at this;exact this),StepsF.ok hT r (k+1) h.2⟩
theorem Fz{T:Array AcJ}(hT:∀t,T.getD t undef=ρ t)(ds:List Tmp)(hds:∀d∈ds,d<T.size)(u:Ad):∀t,(Dm T ds u).getD t undef=if t∈ds then u t else ρ t:=fun t=>by
  by_cases ht:t<T.size
  · rw[Io u t ds T ht,←hT]
  · have h1:(Dm T ds u).getD t undef=undef:=by
      rw[Ady,AfZ (by rw[Dn];omega),Option.getD_none]
    have h2:T.getD t undef=undef:=by rw[Ady,AfZ (by omega),Option.getD_none]
    rw[h1,if_neg (fun h=>ht (hds t h)),←hT,h2]
theorem GE{l:List Adb}{n:Nat}(hg:Cw l n=true)(ds:List Tmp)(hds:slotsW l=ds):∀d∈ds,d<n:=by
  intro d hd;rw[←hds]at hd;unfold slotsW at hd;rw[AfR,AeI]at hd;obtain⟨o,ho,hod⟩:=hd;obtain⟨j,hj⟩:=List.getElem?_of_mem ho;exact(Gb hg).room j o d hj hod
structure EndF (ds : List Tmp) (ρ ρ' : Ad) : Prop where
  old:∀t,ds.contains t=false→ρ' t=ρ t
theorem EndF.at_{ds:List Tmp}{ρ ρ' :Ad}(h:EndF ds ρ ρ'){t:Tmp}{v:AcJ}(hv:ρ t=v)(ht:ds.contains t=false):ρ' t=v:=(h.old t ht).trans hv
theorem Hu{l:List Adb}(Φs:List Bm){id:Nat}(hm:P.follows .mixedOrders=true)(ds:List Tmp)(hg:Cw l n=true)(hds:slotsW l=ds)(hst:AllStab Ext Φs)(hs:StepsF P l (fun _=>Ext w) (fun _=>Ext) (AQ Φs) ρ 0 l) 
    (hQ:∀(ρ' :Ad) w',Ext w w' →EndF ds ρ ρ' →Bd l (fun _=> []) (AQ Φs) ρ' w' ds→Q .normal ρ' w'):B1 P n (.region id l.toArray true) Q ρ w:=by
  intro a ha;obtain⟨T,df⟩:=a;have hz:T.size=n:=ha.size;subst hz;refine MT Φs hm T df hg ds hds hst (StepsF.ok ha.get l 0 hs) fun u w' hE hf=> ?_;have hw:=Fz ha.get ds (GE hg ds hds) u;refine⟨fun t=>if t∈ds then u t else ρ t,⟨by rw[Dn],ha.defers,hw⟩,hQ _ w' hE ⟨fun t ht=>if_neg (by simpa using ht)⟩ ?_⟩;have key:∀es:List Tmp,(∀d∈es,d∈ds)→Bd l (fun _=> []) (AQ Φs) u w' es→Bd l (fun _=> []) (AQ Φs) (fun t=>if t∈ds then u t else ρ t) w' es:=by
    intro es
    induction es with
    | nil=>exact fun _ _=>trivial
    | cons d es ih=>
      intro hm h;refine⟨?_,ih (fun x hx=>hm x (by simp[hx])) h.2⟩;have:=h.1;simp only[if_pos (hm d (by simp))];exact this
  exact key ds (fun _ h=>h) hf
theorem Lx{l:List Adb}(k:Nat)(S:AcK→AcK→Prop)(Φs:List Bm){id:Nat}(hm:P.follows .mixedOrders=true)(ds:List Tmp)(hg:Cw l n=true)(hn:FU l k=true)(hds:slotsW l=ds)(hSr:(l[k]?.bind (·.guard))=none)(hst:AllStab Ext Φs)(hsS:AllStab S Φs)(hs:StepsF P l (fun _=>Ext w) (fun m=>if m=k then S else Ext) (AQ Φs) ρ 0 l) 
    (hQ:∀(ρ' :Ad) w1 w',Ext w w1→S w1 w' →EndF ds ρ ρ' →Bd l (fun _=> []) (AQ Φs) ρ' w' ds→Q .normal ρ' w'):B1 P n (.region id l.toArray true) Q ρ w:=by
  intro a ha;obtain⟨T,df⟩:=a;have hz:T.size=n:=ha.size;subst hz;refine Kw k S Φs hm T df hg hn ds hds hSr hst hsS (StepsF.ok ha.get l 0 hs) fun u w1 w' hE hS hf=> ?_;have hw:=Fz ha.get ds (GE hg ds hds) u;refine⟨fun t=>if t∈ds then u t else ρ t,⟨by rw[Dn],ha.defers,hw⟩,hQ _ w1 w' hE hS ⟨fun t ht=>if_neg (by simpa using ht)⟩ ?_⟩;have key:∀es:List Tmp,(∀d∈es,d∈ds)→Bd l (fun _=> []) (AQ Φs) u w' es→Bd l (fun _=> []) (AQ Φs) (fun t=>if t∈ds then u t else ρ t) w' es:=by
    intro es
    induction es with
    | nil=>exact fun _ _=>trivial
    | cons d es ih=>
      intro hm h;refine⟨?_,ih (fun x hx=>hm x (by simp[hx])) h.2⟩;have:=h.1;simp only[if_pos (hm d (by simp))];exact this
  exact key ds (fun _ h=>h) hf
def AllStabX(S:AcK→AcK→Prop)(ks:List Nat):Nat→List Bm→Prop
  | _,[]=>True
  | i,φ :: r=>(ks.contains i=true∨Stab S φ)∧AllStabX S ks (i+1) r
theorem AllStabX.get{S:AcK→AcK→Prop}{ks:List Nat}:∀(Φs:List Bm) (j:Nat),AllStabX S ks j Φs→∀i,j+i∉ks→Stab S (Φs.getD i (fun _ _=>True))
  | [],_,_,i,_=>by simpa using Stab.any
  | φ :: r,j,h,0,hi=>by
    rcases h.1 with h1 | h1
    · exact absurd (by simpa using h1) hi
    · simpa using h1
  | φ :: r,j,h,i+1,hi=>by
    simpa using AllStabX.get r (j+1) h.2 i (by rwa [show j+1+i=j+(i+1) by omega])
theorem No{l:List Adb}(k:Nat)(Φs:List Bm){id:Nat}(hm:P.follows .mixedOrders=true)(ds:List Tmp)(hg:Cw l n=true)(hk:Ni l k=true)(hds:slotsW l=ds)(hgk:(l[k]?.bind (·.guard))=none)(hst:AllStab Ext Φs)(hsT:AllStab (fun _ _=>True) (Φs.take k)) 
    (hs:StepsF P l (fun m=>if m≤k then Ext w else fun _=>True) (fun m=>if m=k then fun _ _=>True else Ext) (AQ Φs) ρ 0 l)
    (hQ:∀(ρ' :Ad) w',EndF ds ρ ρ' →Bd l (fun _=> []) (AQ Φs) ρ' w' ds→Q .normal ρ' w'):B1 P n (.region id l.toArray true) Q ρ w:=by
  intro a ha;obtain⟨T,df⟩:=a;have hz:T.size=n:=ha.size;subst hz;refine MU k Φs hm T df hg hk ds hds hst hsT hgk (StepsF.ok ha.get l 0 hs) fun u w' hf=> ?_;have hw:=Fz ha.get ds (GE hg ds hds) u;refine⟨fun t=>if t∈ds then u t else ρ t,⟨by rw[Dn],ha.defers,hw⟩,hQ _ w' ⟨fun t ht=>if_neg (by simpa using ht)⟩ ?_⟩;have key:∀es:List Tmp,(∀d∈es,d∈ds)→Bd l (fun _=> []) (AQ Φs) u w' es→Bd l (fun _=> []) (AQ Φs) (fun t=>if t∈ds then u t else ρ t) w' es:=by
    intro es
    induction es with
    | nil=>exact fun _ _=>trivial
    | cons d es ih=>
      intro hm h;refine⟨?_,ih (fun x hx=>hm x (by simp[hx])) h.2⟩;have:=h.1;simp only[if_pos (hm d (by simp))];exact this
  exact key ds (fun _ h=>h) hf
variable {l : List Adb} {Φ : Nat → Bm}
theorem Ah{C:Nat→AcK→Prop}{R:Nat→AcK→AcK→Prop}{k:Nat}{o:Adb}(hg:o.guard=none) 
    (h:∀σ w,C k w→(∀t∈o.looksAt l.toArray,Jh l Φ ρ k t (σ t) w)→Yk P (fun v w' =>R k w w' ∧Φ k v w') ((execOp (Aa σ) o).run P w)):EL P l C R Φ ρ k o:=by
  intro σ w hC hl;have:Bj l o σ=true:=by unfold Bj;rw[hg]
  rw[if_pos this];exact h σ w hC hl
theorem Kx{C:Nat→AcK→Prop}{R:Nat→AcK→AcK→Prop}{k:Nat}{o:Adb}(g:Nat)(want:Bool)(d:Tmp)(hg:o.guard=some (g,want))(hd:(l[g]?).bind (·.dst)=some d) 
    (hv:∀x w,Jh l Φ ρ k d x w→x = .bool want)
    (h:∀σ w,C k w→(∀t∈o.looksAt l.toArray,Jh l Φ ρ k t (σ t) w)→Yk P (fun v w' =>R k w w' ∧Φ k v w') ((execOp (Aa σ) o).run P w)):EL P l C R Φ ρ k o:=by
  intro σ w hC hl;have hin:d∈o.looksAt l.toArray:=by
    unfold AiP;refine Aex _ ?_;rw[hg];simp[hd]
  have:Bj l o σ=true:=by
    unfold Bj;rw[hg];simp only[hd,hv _ _ (hl d hin)];simp
  rw[if_pos this];exact h σ w hC hl
theorem Hv{C:Nat→AcK→Prop}{R:Nat→AcK→AcK→Prop}{k:Nat}{o:Adb}(g:Nat)(want:Bool)(d:Tmp)(hg:o.guard=some (g,want))(hd:(l[g]?).bind (·.dst)=some d) 
    (hv:∀x w,Jh l Φ ρ k d x w→x ≠ .bool want) (hu:∀w,Φ k undef w):EL P l C R Φ ρ k o:=by
  intro σ w hC hl;have hin:d∈o.looksAt l.toArray:=by
    unfold AiP;refine Aex _ ?_;rw[hg];simp[hd]
  have:Bj l o σ=false:=by
    unfold Bj;rw[hg];simp only[hd];have h1:=hv _ _ (hl d hin);cases hx:σ d <;> simp
    rename_i b
    intro hb;exact h1 (by rw[hx,hb])
  rw[if_neg (by rw[this];simp)];exact hu w

/-! ### A function is entered; it returns -/
structure Begun (args : List AcJ) (ρ : Ad) : Prop where
  get:∀t,ρ t=args.getD t undef
def ResF(P:Adg)(ρ:Ad)(w:AcK):ResultVar→AcJ→Prop
  | .tmp t,v=>ρ t=v
  | .cell p ty,v=>∃a,ρ p = .pointer (some a)∧(loadVar ty a).run P w = .ok v w
def Gh(P:Adg)(ρ:Ad)(w:AcK):List ResultVar→List AcJ→Prop
  | [],[]=>True
  | r :: rs,v :: vs=>ResF P ρ w r v∧Gh P ρ w rs vs
  | _,_=>False
def resOf(tmps:Array AcJ):ResultVar→Sem AcJ
  | .tmp t=>pure (tmps.getD t undef)
  | .cell a t=>do loadVar t (←asAddr (tmps.getD a undef))
theorem It{ρ:Ad}{w:AcK}{tmps:Array AcJ}(ht:∀t,tmps.getD t undef=ρ t):∀(rs:List ResultVar) (vs:List AcJ),Gh P ρ w rs vs→(rs.mapM (resOf tmps)).run P w=AhY vs w
  | [],[],_=>by simp[Ac3]
  | [],_ :: _,h=>h.elim
  | _ :: _,[],h=>h.elim
  | r :: rs,v :: vs,h=>by
    have ih:=It ht rs vs h.2;have h1:(resOf tmps r).run P w = .ok v w:=by
      have h1:=h.1;cases r with
      | tmp t=>
        simp only[ResF]at h1;simp only[resOf,ht,h1,Ac3]
      | cell p ty=>
        obtain⟨a,ha,hl⟩:=h1;simp only[resOf,ht,ha,asAddr,Ac1,Ac3,AcV,hl]
    rw[List.mapM_cons,Ac1,h1];simp only[AcV,Ac1,ih,Ac3]
def G9:List AcJ→AcJ
  | [v]=>v
  | vs=> .tuple vs.toArray
theorem Hw{fn:AfB}{rs:List ResultVar}(hrs:fn.results=rs.toArray){tmps:Array AcJ}(ht:∀t,tmps.getD t undef=ρ t){vs:List AcJ}(h:Gh P ρ w rs vs):
    (results fn tmps).run P w = .ok (G9 vs) w:=by
  have h1:=It ht rs vs h;have he:results fn tmps=(do let vs ←fn.results.mapM (resOf tmps);pure (if h:vs.size=1 then vs[0]else .tuple vs)):=by
    unfold results
    congr 1
  rw[he,hrs,List.mapM_toArray,Ac1];have hm:((Aec <$> rs.mapM (resOf tmps)):Sem (Array AcJ)).run P w = .ok vs.toArray w:=by
    show((rs.mapM (resOf tmps)).bind (fun x=>Sem.pure x.toArray)).run P w=_;rw[show(rs.mapM (resOf tmps)).bind (fun x=>Sem.pure x.toArray)=(do let x ←rs.mapM (resOf tmps);pure x.toArray)from rfl,Ac1,h1];rfl
  rw[hm];simp only[AcV,Ac3]
  match vs with
  | []=>rfl
  | [v]=>rfl
  | _ :: _ :: _=>simp[G9]
theorem ResF.row{p:Tmp}{ty:AcR}{g:Nat}{t:AcR}{cs:Array AcJ}{fr:Nat × Nat}{d:TypeDesc}(hp:ρ p = .pointer (some ⟨g,0,none⟩))(hg:w.heap[g]? =some (.cells cs t fr)) 
    (hu:P.underlying ty=some d) (hd:(match d with | .struct _ | .array _ _=>true | _=>false)=true) (hi:(P.info? ty).map (·.size)=some cs.size):ResF P ρ w (.cell p ty) (.agg cs):=
  ⟨_,hp,run_loadVar_row w g t ty cs fr d hg hu hd hi⟩
end
variable {P : Adg}
abbrev U(x:UInt32):AcJ:= .int .u32 (x.toNat:Int)
abbrev NI(n:Nat):AcJ:= .int .i64 (n:Int)
abbrev B8(x:UInt8):AcJ:= .int .u8 (x.toNat:Int)

theorem EV(n:Nat):IntKind.u32.wrap (n:Int)=((n%4294967296:Nat):Int):=by
  simp[Agw,Ad0,AeK]
theorem Pz(n:Nat):IntKind.u8.wrap (n:Int)=((n%256:Nat):Int):=by
  simp[Agw,Ad0,AeK]
theorem Ji(a:UInt32):BitVec.ofInt 32 (a.toNat:Int)=a.toBitVec:=by
  rw[Age];exact BitVec.ofNat_toNat 32 a.toBitVec |>.trans (by simp)
theorem E3(t:AcR)(a b:UInt32):Adq .add t (U a) (U b)=pure (U (a+b)):=by
  unfold Adq;simp only[ne_eq,not_true_eq_false,if_false,Agn];rw[←Int.natCast_add,EV];simp[U,UInt32.toNat_add]
theorem E4(t:AcR)(a b:UInt32):Adq .xor t (U a) (U b)=pure (U (a^^^b)):=by
  unfold Adq;simp only[ne_eq,not_true_eq_false,if_false,AgH,Ad0,Ji];rw[EV,Aed (Aid _)];rfl
theorem Ky(t:AcR)(a b:UInt32):Adq .and t (U a) (U b)=pure (U (a&&&b)):=by
  unfold Adq;simp only[ne_eq,not_true_eq_false,if_false,AgH,Ad0,Ji];rw[EV,Aed (Aid _)];rfl
theorem Qi(t:AcR)(a b:UInt32):Adq .or t (U a) (U b)=pure (U (a|||b)):=by
  unfold Adq;simp only[ne_eq,not_true_eq_false,if_false,AgH,Ad0,Ji];rw[EV,Aed (Aid _)];rfl
theorem YJ(a:UInt32):Go.Op.unary .xor (U a)=pure (U (~~~a)):=by
  unfold Go.Op.unary;have h:BitVec.ofInt 32 (IntKind.u32.max)=BitVec.allOnes 32:=by decide
  simp only[AeK,Afk,if_false,AgH,Ad0,Ji,h];rw[EV,Aed (Aid _)];simp only[U];have h2:BitVec.allOnes 32^^^a.toBitVec = ~~~a.toBitVec:=BitVec.allOnes_xor;exact congrArg (fun z:BitVec 32=>(pure (AeJ .u32 (z.toNat:Int)):Sem AcJ)) h2
theorem M7(t:AcR)(a:UInt32)(k:AdU)(n:Nat)(hn:n<32):Adq .shl t (U a) (.int k (n:Int))=pure (U (a<<<Agx n)):=by
  unfold Adq;simp only[AhJ,Ad0];rw[if_neg (by omega),Ac0,AfT (by omega)];have:(a.toNat:Int)*2^n=((a.toNat*2^n:Nat):Int):=by simp
  rw[this,EV];simp only[U]
  congr 2
  simp[UInt32.toNat_shiftLeft,AhK,Aed (show n<4294967296 by omega),Aed hn]
theorem Jj(t:AcR)(a:UInt32)(k:AdU)(n:Nat)(hn:n<32):Adq .shr t (U a) (.int k (n:Int))=pure (U (a>>>Agx n)):=by
  unfold Adq;simp only[AhJ,Ad0];rw[if_neg (by omega),Ac0,AfT (by omega)];have:(a.toNat:Int).fdiv (2^n)=((a.toNat/2^n:Nat):Int):=by
    rw[show(2^n:Int)=((2^n:Nat):Int) by simp,Afr _ (AfU _)];rfl
  rw[this];simp only[U]
  congr 2
  simp[UInt32.toNat_shiftRight,Nat.shiftRight_eq_div_pow,Aed (show n<4294967296 by omega),Aed hn]
theorem WD{op:BinOp}{t ty2:AcR}{x y:AcW}{d:Option Tmp}{ty:AcR}{pos:String}{af:Array AdL}{gd:Option (Nat × Bool)}{ρ:AcW→AcJ}{xv yv v:AcJ}{w:AcK} 
    (hx:ρ x=xv) (hy:ρ y=yv) (hne:(op matches .eql | .neq)=false) (hr:Adq op t xv yv=pure v):(execOp ρ ⟨d, .binOp op t x y ty2,ty,pos,af,gd⟩).run P w = .ok (.value v) w:=by
  have hg:eqGuard op t x y xv yv=pure ():=by
    unfold eqGuard;cases op <;> first | rfl | cases hne
  unfold execOp;simp only[hx,hy,hg,hr,Ac1,Ac3,AcV]
theorem Zw{K:AcJ→AcK→Prop}{op:BinOp}{t ty2:AcR}{x y:AcW}{d:Option Tmp}{ty:AcR}{pos:String}{af:Array AdL}{gd:Option (Nat × Bool)}{ρ:Tmp→AcJ}{xv yv v:AcJ}{w:AcK} 
    (hx:Aa ρ x=xv) (hy:Aa ρ y=yv) (hne:(op matches .eql | .neq)=false) (hr:Adq op t xv yv=pure v) (hk:K v w):Yk P K ((execOp (Aa ρ) ⟨d, .binOp op t x y ty2,ty,pos,af,gd⟩).run P w):=
  Yk.value (WD hx hy hne hr) hk
theorem Acd{K:AcJ→AcK→Prop}{t:AcR}{x:AcW}{d:Option Tmp}{ty:AcR}{pos:String}{af:Array AdL}{gd:Option (Nat × Bool)}{ρ:Tmp→AcJ}{a:UInt32}{w:AcK} 
    (hx:Aa ρ x=U a) (hk:K (U (~~~a)) w):Yk P K ((execOp (Aa ρ) ⟨d, .unOp .xor t x,ty,pos,af,gd⟩).run P w):=by
  refine Yk.value (v:=U (~~~a)) (w' :=w) ?_ hk;unfold execOp;simp only[hx,YJ];simp
theorem Yk.wide{K:AcJ→AcK→Prop}{src dst:AcR}{x:AcW}{d:Option Tmp}{ty:AcR}{pos:String}{af:Array AdL}{gd:Option (Nat × Bool)}{ρ:Tmp→AcJ}{a:UInt8}{w:AcK} 
    (hs:P.underlying src=some (.int .u8)) (hd:P.underlying dst=some (.int .u32)) (hx:Aa ρ x=B8 a) (hk:K (U a.toUInt32) w):Yk P K ((execOp (Aa ρ) ⟨d, .convert src dst x,ty,pos,af,gd⟩).run P w):=by
  refine Yk.value (v:=U a.toUInt32) (w' :=w) ?_ hk;unfold execOp;simp only[hx,convert,Ac1,run_underlying hs,run_underlying hd,AcV,Aiz,Ac3];rw[EV,Aed (by have:=a.toNat_lt;omega)];simp[U]
theorem AaG{K:AcJ→AcK→Prop}{src dst:AcR}{x:AcW}{d:Option Tmp}{ty:AcR}{pos:String}{af:Array AdL}{gd:Option (Nat × Bool)}{ρ:Tmp→AcJ}{a:UInt32}{w:AcK} 
    (hs:P.underlying src=some (.int .u32)) (hd:P.underlying dst=some (.int .u8)) (hx:Aa ρ x=U a) (hk:K (B8 a.toUInt8) w):Yk P K ((execOp (Aa ρ) ⟨d, .convert src dst x,ty,pos,af,gd⟩).run P w):=by
  refine Yk.value (v:=B8 a.toUInt8) (w' :=w) ?_ hk;unfold execOp;simp only[hx,convert,Ac1,run_underlying hs,run_underlying hd,AcV,Aiz,Ac3];rw[Pz];simp[B8]
theorem Qj{t e:AcR}{n:Nat}(ht:P.underlying t=some (.array n e))(he:∀w' :AcK,(sizeOf e).run P w' = .ok 1 w'){x y:AcW}{d:Option Tmp}{ty:AcR}{pos:String}{af:Array AdL}{gd:Option (Nat × Bool)}{ρ:AcW→AcJ}{w:AcK}{b o i:Nat}{k:AdU} 
    (hx:ρ x = .pointer (some ⟨b,o,none⟩)) (hy:ρ y = .int k (i:Int)) (hi:i<n):(execOp ρ ⟨d, .indexAddr t x y,ty,pos,af,gd⟩).run P w = .ok (.value (.pointer (some ⟨b,o+i,none⟩))) w:=by
  have hE:P.elem t=e:=by simp[Af5,ht]
  have hN:P.arrayLen t=n:=by simp[AhL,ht]
  have hr:=run_indexAt_array (P:=P) w t ⟨b,o,none⟩ k (i:Int) (by rw[hE,hN];exact ht);rw[if_pos (by rw[hN];omega),hE,he]at hr;unfold execOp;simp only[hx,hy,Ac1,hr,AcV,Ac3];simp[Aek]
theorem Ace{K:AcJ→AcK→Prop}{t e:AcR}{n:Nat}(ht:P.underlying t=some (.array n e))(he:∀w' :AcK,(sizeOf e).run P w' = .ok 1 w'){x y:AcW}{d:Option Tmp}{ty:AcR}{pos:String}{af:Array AdL}{gd:Option (Nat × Bool)}{ρ:Tmp→AcJ}{w:AcK}{b o i:Nat}{k:AdU} 
    (hx:Aa ρ x = .pointer (some ⟨b,o,none⟩)) (hy:Aa ρ y = .int k (i:Int)) (hi:i<n) (hk:K (.pointer (some ⟨b,o+i,none⟩)) w):Yk P K ((execOp (Aa ρ) ⟨d, .indexAddr t x y,ty,pos,af,gd⟩).run P w):=
  Yk.value (Qj ht he hx hy hi) hk
theorem AaK{K:AcJ→AcK→Prop}{t e:AcR}(ht:P.underlying t=some (.slice e))(he:∀w' :AcK,(sizeOf e).run P w' = .ok 1 w'){x y:AcW}{d:Option Tmp}{ty:AcR}{pos:String}{af:Array AdL}{gd:Option (Nat × Bool)}{ρ:Tmp→AcJ}{w:AcK}{b o i n c:Nat}{k:AdU} 
    (hx:Aa ρ x = .slice (some ⟨b,o,none⟩) n c) (hy:Aa ρ y = .int k (i:Int)) (hi:i<n) (hk:K (.pointer (some ⟨b,o+i,none⟩)) w):Yk P K ((execOp (Aa ρ) ⟨d, .indexAddr t x y,ty,pos,af,gd⟩).run P w):=by
  refine Yk.value (v:= .pointer (some ⟨b,o+i,none⟩)) (w' :=w) ?_ hk;have hE:P.elem t=e:=by simp[Af5,ht]
  have hr:=run_indexAt_slice (P:=P) w t ⟨b,o,none⟩ n c k (i:Int) (by rw[hE];exact ht);rw[if_pos (by omega),hE,he]at hr;unfold execOp;simp only[hx,hy,Ac1,hr,AcV,Ac3];simp[Aek]
theorem RY{ty:AcR}{desc:TypeDesc}(hu:P.underlying ty=some desc)(hd:(match desc with | .struct _ | .array _ _=>false | _=>true)=true){x:AcW}{d:Option Tmp}{tt:AcR}{pos:String}{af:Array AdL}{gd:Option (Nat × Bool)}{ρ:AcW→AcJ}{w:AcK}{a:Addr}{v:AcJ} 
    (hx:ρ x = .pointer (some a)) (hc:w.cell? a=some v):(execOp ρ ⟨d, .load ty x,tt,pos,af,gd⟩).run P w = .ok (.value v) w:=by
  have hl:(AiQ ty (.pointer (some a))).run P w = .ok v w:=by
    have hagg:(isAgg ty).run P w = .ok false w:=by
      unfold isAgg;rw[Ac1,run_underlying hu w];cases desc <;> simp_all
    simp[AiQ,Aff,loadVar,hagg,hc]
  unfold execOp;simp only[hx,Ac1,hl,AcV,Ac3]
theorem Zu{K:AcJ→AcK→Prop}{ty:AcR}{desc:TypeDesc}(hu:P.underlying ty=some desc)(hd:(match desc with | .struct _ | .array _ _=>false | _=>true)=true){x:AcW}{d:Option Tmp}{tt:AcR}{pos:String}{af:Array AdL}{gd:Option (Nat × Bool)}{ρ:Tmp→AcJ}{w:AcK}{a:Addr}{v:AcJ} 
    (hx:Aa ρ x = .pointer (some a)) (hc:w.cell? a=some v) (hk:K v w):Yk P K ((execOp (Aa ρ) ⟨d, .load ty x,tt,pos,af,gd⟩).run P w):=
  Yk.value (RY hu hd hx hc) hk

section
variable {P : Adg} {K : AcJ → AcK → Prop} {ρ : Ad} {w : AcK} {d : Option Tmp} {ty : AcR} {pos : String} {af : Array AdL} {gd : Option (Nat × Bool)}
theorem Yk.move{x:AcW}{v:AcJ}(hx:Aa ρ x=v)(hk:K v w):Yk P K ((execOp (Aa ρ) ⟨d, .move x,ty,pos,af,gd⟩).run P w):=by
  subst hx;exact hk
theorem Yk.assign{x:AcW}{v:AcJ}(hx:Aa ρ x=v)(hk:K v w):Yk P K ((execOp (Aa ρ) ⟨d, .assign x,ty,pos,af,gd⟩).run P w):=by
  subst hx;exact hk
theorem ZE{c x y:AcW}{v:AcJ}(hc:Aa ρ c = .bool true)(hx:Aa ρ x=v)(hk:K v w):Yk P K ((execOp (Aa ρ) ⟨d, .pick c x y,ty,pos,af,gd⟩).run P w):=by
  subst hx;unfold execOp;simp only[hc,asBool,Ac1,Ac3,AcV,if_true];exact hk
theorem ZH{c x y:AcW}{v:AcJ}(hc:Aa ρ c = .bool false)(hx:Aa ρ y=v)(hk:K v w):Yk P K ((execOp (Aa ρ) ⟨d, .pick c x y,ty,pos,af,gd⟩).run P w):=by
  subst hx;unfold execOp;simp only[hc,asBool,Ac1,Ac3,AcV,Afk,if_false];exact hk
theorem Yk.nilCheck{x:AcW}{a:Addr}(hx:Aa ρ x = .pointer (some a))(hk:K (.pointer (some a)) w):Yk P K ((execOp (Aa ρ) ⟨d, .nilCheck x,ty,pos,af,gd⟩).run P w):=by
  unfold execOp;simp only[hx];exact hk
def AV(P:Adg)(s:AcR)(f off:Nat):Prop:=∀(b o:Nat) (w:AcK),(Instr.fieldAt s (.pointer (some ⟨b,o,none⟩)) f).run P w = .ok (.pointer (some ⟨b,o+off,none⟩)) w
theorem Yk.fieldAt{s:AcR}{f off b o:Nat}(hf:AV P s f off){x:AcW}(hx:Aa ρ x = .pointer (some ⟨b,o,none⟩))(hk:K (.pointer (some ⟨b,o+off,none⟩)) w):Yk P K ((execOp (Aa ρ) ⟨d, .fieldAddr s x f,ty,pos,af,gd⟩).run P w):=by
  unfold execOp;simp only[hx,Ac1,hf b o w,AcV,Ac3];exact hk
theorem Yk.alloc{e:AcR}{cs:Array AcJ}(hz:∀(σ:AcW→AcJ) (w:AcK),(execOp σ ⟨d, .alloc e,ty,pos,af,gd⟩).run P w = .ok (.value (.pointer (some ⟨w.heap.size,0,none⟩))) (w.alloc (.cells cs e))) 
    (hk:∀n w',w.heap.size=n→w'.heap[n]? =some (.cells cs e (0,0))→Ext w w' →w'.heap.size=n+1→K (.pointer (some ⟨n,0,none⟩)) w'):Yk P K ((execOp (Aa ρ) ⟨d, .alloc e,ty,pos,af,gd⟩).run P w):=by
  rw[hz];exact hk _ _ rfl (heap_alloc_new w _) ((AdC _ _).alloc (AcP _) _) (by simp)
theorem Yk.box{e:AcR}{x:AcW}{cs:Array AcJ}(hx:Aa ρ x = .agg cs) 
    (hk:∀n w',w.heap.size=n→w'.heap[n]? =some (.cells cs e (0,0))→Ext w w' →w'.heap.size=n+1→K (.pointer (some ⟨n,0,none⟩)) w'):Yk P K ((execOp (Aa ρ) ⟨d, .box e x,ty,pos,af,gd⟩).run P w):=by
  have hr:(execOp (Aa ρ) ⟨d, .box e x,ty,pos,af,gd⟩).run P w = .ok (.value (.pointer (some ⟨w.heap.size,0,none⟩))) (w.alloc (.cells cs e)):=by
    show((Instr.box e (Aa ρ x)).run P w).andThen (fun v w=>AhY (Aio v) w)=_;rw[hx];rfl
  rw[hr];exact hk _ _ rfl (heap_alloc_new w _) ((AdC _ _).alloc (AcP _) _) (by simp)
theorem ZF{t e:AcR}(ht:P.underlying t=some (.slice e)){x:AcW}{l:List UInt8}{w0:AcK}(h:RB w0 (Aa ρ x) l)(hk:K (NI l.length) w):Yk P K ((execOp (Aa ρ) ⟨d, .call ⟨.builtin .len,#[x],#[t]⟩,ty,pos,af,gd⟩).run P w):=by
  obtain⟨h1,ao,cap,hv,h2,h3,h4,h5⟩:=h;refine Yk.value (v:=NI l.length) (w' :=w) ?_ hk;unfold execOp;simp[resolve,invoke,builtin,AhM,hv,run_underlying ht,goInt]
theorem AaE{t e:AcR}(ht:P.underlying t=some (.slice e)){x:AcW}{ao:Option Addr}{n c:Nat}(hx:Aa ρ x = .slice ao n c)(hk:K (NI n) w):Yk P K ((execOp (Aa ρ) ⟨d, .call ⟨.builtin .len,#[x],#[t]⟩,ty,pos,af,gd⟩).run P w):=by
  refine Yk.value (v:=NI n) (w' :=w) ?_ hk;unfold execOp;simp[resolve,invoke,builtin,AhM,hx,run_underlying ht,goInt]
theorem AbS{t:AcR}(ht:P.underlying t=some .string){x:AcW}{s:ByteArray}(hx:Aa ρ x = .string s)(hk:K (NI s.size) w):Yk P K ((execOp (Aa ρ) ⟨d, .call ⟨.builtin .len,#[x],#[t]⟩,ty,pos,af,gd⟩).run P w):=by
  refine Yk.value (v:=NI s.size) (w' :=w) ?_ hk;unfold execOp;simp[resolve,invoke,builtin,AhM,hx,run_underlying ht,goInt]
def PCell(v:AcJ):Bm:=fun x w=>∃a,x = .pointer (some a)∧w.cell? a=some v
theorem ZU{t e:AcR}(ht:P.underlying t=some (.slice e))(he:∀w' :AcK,(sizeOf e).run P w' = .ok 1 w'){x y:AcW}{l:List UInt8}(h:RB w (Aa ρ x) l){k:AdU}{i:Nat}(hy:Aa ρ y = .int k (i:Int))(hi:i<l.length) 
    (hk:∀v,PCell (B8 (l.getD i 0)) v w→K v w):Yk P K ((execOp (Aa ρ) ⟨d, .indexAddr t x y,ty,pos,af,gd⟩).run P w):=by
  obtain⟨b,off,cap,hv,h1,h2,h3,h4⟩:=h.open_ (by omega);exact AaK ht he hv hy hi (hk _ ⟨_,rfl,h4 i hi⟩)
theorem ZL{t:AcR}{desc:TypeDesc}(hu:P.underlying t=some desc)(hd:(match desc with | .struct _ | .array _ _=>false | _=>true)=true){x:AcW}{v:AcJ}(hx:PCell v (Aa ρ x) w)(hk:K v w):Yk P K ((execOp (Aa ρ) ⟨d, .load t x,ty,pos,af,gd⟩).run P w):=by
  obtain⟨a,ha,hc⟩:=hx;exact Zu hu hd ha hc hk
theorem Zv{op:BinOp}{t ty2:AcR}{x y:AcW}{k:AdU}{a b:Int}{v:AcJ}(hx:Aa ρ x = .int k a)(hy:Aa ρ y = .int k b)(hr:Adq op t (.int k a) (.int k b)=pure v)(hk:K v w):Yk P K ((execOp (Aa ρ) ⟨d, .binOp op t x y ty2,ty,pos,af,gd⟩).run P w):=by
  have hg:eqGuard op t x y (.int k a) (.int k b)=pure ():=by
    unfold eqGuard;cases op <;> rfl
  refine Yk.value (v:=v) (w' :=w) ?_ hk;unfold execOp;simp only[hx,hy,hg,hr,Ac1,Ac3,AcV]
theorem Z9{t:AcR}{x:AcW}{b:Bool}(hx:Aa ρ x = .bool b)(hk:K (.bool (!b)) w):Yk P K ((execOp (Aa ρ) ⟨d, .unOp .not t x,ty,pos,af,gd⟩).run P w):=by
  refine Yk.value (v:= .bool (!b)) (w' :=w) ?_ hk;unfold execOp;simp[hx,Op.unary]
theorem Yk.run{o:Adb}{v:AcJ}(hr:(execOp (Aa ρ) o).run P w = .ok (.value v) w)(hk:K v w):Yk P K ((execOp (Aa ρ) o).run P w):=by rw[hr];exact hk
theorem Zt{src dst:AcR}{ks kd:AdU}(hs:P.underlying src=some (.int ks))(hd:P.underlying dst=some (.int kd))(a:Int)(w:AcK):(convert src dst (.int ks a)).run P w = .ok (.int kd (kd.wrap a)) w:=by
  simp only[convert,Ac1,run_underlying hs,run_underlying hd,AcV,Aiz,Ac3]
theorem Z4{src dst:AcR}{ks kd:AdU}(hs:P.underlying src=some (.int ks))(hd:P.underlying dst=some (.int kd)){x:AcW}{a b:Int}(hx:Aa ρ x = .int ks a)(hb:kd.wrap a=b)(hk:K (.int kd b) w):Yk P K ((execOp (Aa ρ) ⟨d, .convert src dst x,ty,pos,af,gd⟩).run P w):=by
  refine Yk.value (v:= .int kd b) (w' :=w) ?_ hk;have:=Go.Proofs.YtfpekahfdalfkaaGreatDoor.Zt (P:=P) hs hd a w;unfold execOp;simp only[hx,Ac1,this,AcV,Ac3,hb]
theorem ZW(s x:AcW){t tx e e' :AcR}(base:Nat)(z:AcJ)(ht:P.underlying t=some (.slice e))(hi:(P.info? e).map (fun i=>(i.zero,i.size,i.bytes))=some (some z,1,1))(hzs:z.cells.size=1)(hu:P.underlying tx=some (.slice e')) 
    (l m:List UInt8) (hown:w.ownsRow base e 1 (Aa ρ s) l.length (AcL l)) (hsrc:RB w (Aa ρ x) m) (hb:l.length+m.length≤140737488355328) (hbase:base≤w.heap.size)
    (h:∀v' w',w'.ownsRow base e 1 v' (l++m).length (AcL (l++m))→Grew w w' (Aa ρ s) v' →K v' w'):Yk P K ((execOp (Aa ρ) ⟨d, .call ⟨.builtin .append,#[s,x],#[t,tx]⟩,ty,pos,af,gd⟩).run P w):=
  Yk.append s x base e z 1 1 ht hi hzs l.length (AcL l) hown m.length (AcL m) (hsrc.src hu) (by unfold maxLen;omega) (by omega) hbase fun v' w' ho g=>h v' w' (by rw[AcQ,Ag2];exact ho) g
theorem Acu{t e:AcR}{n:Nat}{parts:Array (Nat × AcW)}{cs:Array AcJ}(hr:∀w:AcK,(Adt t n (parts.map fun(i,x)=>(i,Aa ρ x))).run P w = .ok (.slice (some ⟨w.heap.size,0,none⟩) n n) (w.alloc (.cells cs e))) 
    (hk:∀b w',w.heap.size=b→w'.heap[b]? =some (.cells cs e (0,0))→Ext w w' →w'.heap.size=b+1→K (.slice (some ⟨b,0,none⟩) n n) w'):Yk P K ((execOp (Aa ρ) ⟨d, .buildSlice t n parts,ty,pos,af,gd⟩).run P w):=by
  have hr' :(execOp (Aa ρ) ⟨d, .buildSlice t n parts,ty,pos,af,gd⟩).run P w = .ok (.value (.slice (some ⟨w.heap.size,0,none⟩) n n)) (w.alloc (.cells cs e)):=by
    unfold execOp;simp only[Ac1,hr,AcV,Ac3]
  rw[hr'];exact hk _ _ rfl (heap_alloc_new w _) ((AdC _ _).alloc (AcP _) _) (by simp)
theorem Hx(w:AcK)(e:AcR)(l:List UInt8)(hl:l.length≤9223372036854775807):NewB e w (w.alloc (.cells (AcL l).toArray e)) (.slice (some ⟨w.heap.size,0,none⟩) l.length l.length) l:=
  ⟨⟨by rw[AcZ];simp, .inr ⟨w.heap.size,l.length,(AcL l).toArray,rfl,AcP _,heap_alloc_new w _,AcP _,hl,by simp[AcZ],by rw[show l.length*1=(AcL l).length by rw[AcZ];simp];exact Ad6⟩⟩,AiD _ _ none⟩
theorem AaM{f:AeB}(hp:Plain P f){args:Array AcW}{at_:Array AcR}(vs:List AcJ)(hv:args.toList.map (Aa ρ)=vs) 
    (h:Calls P f vs.toArray w fun e w' =>∃v,e = .returned v∧K v w'):Yk P K ((execOp (Aa ρ) ⟨d, .call ⟨.value (.func f),args,at_⟩,ty,pos,af,gd⟩).run P w):=by
  subst hv;have:=Yk.call (P:=P) (K:=K) hp (ρ:=ρ) (args:=args.toList) (at_:=at_) (dst:=d) (ty:=ty) (pos:=pos) (af:=af) (gd:=gd) (w:=w) h
  simpa using this
theorem AaR{f:AeB}(hp:Plain P f){at_:Array AcR} 
    (h:Calls P f #[] w fun e w' =>∃v,e = .returned v∧K v w'):Yk P K ((execOp (Aa ρ) ⟨d, .call ⟨.value (.func f),#[],at_⟩,ty,pos,af,gd⟩).run P w):=
  AaM hp [] (by simp) h
theorem ZA{f:AeB}(hp:Plain P f){x0:AcW}{a:AcJ}{at_:Array AcR}(h0:Aa ρ x0=a) 
    (h:Calls P f #[a] w fun e w' =>∃v,e = .returned v∧K v w'):Yk P K ((execOp (Aa ρ) ⟨d, .call ⟨.value (.func f),#[x0],at_⟩,ty,pos,af,gd⟩).run P w):=
  AaM hp [a] (by simp[h0]) h
theorem Zx{f:AeB}(hp:Plain P f){x0 x1:AcW}{a b:AcJ}{at_:Array AcR}(h0:Aa ρ x0=a)(h1:Aa ρ x1=b) 
    (h:Calls P f #[a,b] w fun e w' =>∃v,e = .returned v∧K v w'):Yk P K ((execOp (Aa ρ) ⟨d, .call ⟨.value (.func f),#[x0,x1],at_⟩,ty,pos,af,gd⟩).run P w):=
  AaM hp [a,b] (by simp[h0,h1]) h
theorem ZV{f:AeB}(hp:Plain P f){x0 x1 x2:AcW}{a b c:AcJ}{at_:Array AcR}(h0:Aa ρ x0=a)(h1:Aa ρ x1=b)(h2:Aa ρ x2=c) 
    (h:Calls P f #[a,b,c] w fun e w' =>∃v,e = .returned v∧K v w'):Yk P K ((execOp (Aa ρ) ⟨d, .call ⟨.value (.func f),#[x0,x1,x2],at_⟩,ty,pos,af,gd⟩).run P w):=
  AaM hp [a,b,c] (by simp[h0,h1,h2]) h
theorem Z3{src dst e:AcR}(hs:P.underlying src=some (.slice e))(he:P.underlying e=some (.int .u8))(hd:P.underlying dst=some .string){x:AcW}{l:List UInt8} 
    (h:RB w (Aa ρ x) l) (hk:K (.string ⟨l.toArray⟩) w):Yk P K ((execOp (Aa ρ) ⟨d, .convert src dst x,ty,pos,af,gd⟩).run P w):=by
  have hr:=Nk (P:=P) hs he hd h;refine Yk.value (v:= .string ⟨l.toArray⟩) (w' :=w) ?_ hk;unfold execOp;simp only[Ac1,hr,AcV,Ac3]
theorem ZB{v x:AcJ}{l:List UInt8}(h:RB w v l)(e:x=v):RB w x l:=by rw[e];exact h
theorem ZQ{v x y:AcJ}(h:PCell v x w)(e:y=x):PCell v y w:=by rw[e];exact h
theorem C3{v x:AcJ}{b:Nat}{e:AcR}{z n:Nat}{xs:List AcJ}(h:w.ownsRow b e z v n xs)(e' :x=v):w.ownsRow b e z x n xs:=by rw[e'];exact h
theorem oM{Q:BE}{ops:Array Adb}{n:Nat}{rest:List Adb}{dst:Option Tmp}{x:AcW}{ty:AcR}{pos:String}{af:Array AdL}(hd:(match dst with | some d=>AeC d n | none=>true)=true)(h:Cf P ops n Q rest (updO ρ dst (Aa ρ x)) w):Cf P ops n Q (⟨dst, .move x,ty,pos,af,none⟩ :: rest) ρ w:=oS hd (Yk.move rfl h)
theorem oA{Q:BE}{ops:Array Adb}{n:Nat}{rest:List Adb}{dst:Option Tmp}{x:AcW}{ty:AcR}{pos:String}{af:Array AdL}(hd:(match dst with | some d=>AeC d n | none=>true)=true)(h:Cf P ops n Q rest (updO ρ dst (Aa ρ x)) w):Cf P ops n Q (⟨dst, .assign x,ty,pos,af,none⟩ :: rest) ρ w:=oS hd (Yk.assign rfl h)
def Kz(ρ:Ad):List (Nat × AcJ)→Prop
  | []=>True
  | (t,v) :: r=>ρ t=v∧Kz ρ r
theorem EndF.hold{ds:List Tmp}{ρ ρ' :Ad}(h:EndF ds ρ ρ'):∀(l:List (Nat × AcJ)) (_:Kz ρ l) (_:(l.all fun p=> !ds.contains p.1)=true),Kz ρ' l
  | [],_,_=>trivial
  | (t,v) :: r,hl,hd=>by
    rw[Ahs,AdT]at hd;exact⟨h.at_ hl.1 (by simpa using hd.1),EndF.hold h r hl.2 hd.2⟩
theorem Ha{Q:BE}{ops:Array Adb}{n:Nat}(l:List (Nat × AcJ))(hF:Kz ρ l)(h:∀ρ',Kz ρ' l→Q .normal ρ' w):Cf P ops n Q [] ρ w:=oZ (h ρ hF)
theorem Aq{w0 w w' :AcK}{v v' :AcJ}{b:Nat}{e:AcR}{z n:Nat}{xs:List AcJ}(h:Ext w0 w)(g:Grew w w' v v')(ho:w.ownsRow b e z v n xs)(hb:w0.heap.size≤b):Ext w0 w' :=
  Ago h g.by_ h.size (fun k hk=>AcN hb (ho.lt k hk).1)
theorem Ao{w w' :AcK}{v v' :AcJ}{g:Nat}{o:Obj}(h:w.heap[g]? =some o)(gr:Grew w w' v v')(hne:v.ownBlock≠some g):w'.heap[g]? =some o:=
  (gr.by_.block g (Ade.1 h).1 (fun e=>hne e.symm)).trans h
theorem Dp{w:AcK}{v:AcJ}{b:Nat}{e:AcR}{z n:Nat}{xs:List AcJ}{g:Nat}(ho:w.ownsRow b e z v n xs)(hg:g<b):v.ownBlock≠some g:=fun h=>by have:=(ho.lt g h).1;omega
theorem A3{w:AcK}{v:AcJ}{b:Nat}{e:AcR}{z n:Nat}{xs:List AcJ}{g:Nat}(ho:w.ownsRow b e z v n xs)(hg:w.heap.size≤g):v.ownBlock≠some g:=fun h=>by have:=(ho.lt g h).2;omega
theorem An{w w' :AcK}{v v' :AcJ}{g:Nat}(gr:Grew w w' v v')(h:v.ownBlock≠some g)(hg:g<w.heap.size):v'.ownBlock≠some g:=fun h' =>by
  rcases gr.fresh g h' with h1 | h1
  · exact h h1
  · omega
theorem BM{w w' :AcK}{v:AcJ}{b:Nat}{e:AcR}{z n:Nat}{xs:List AcJ}{g:Nat}(ho:w.ownsRow b e z v n xs)(h:w.grownBy w' (some g))(hne:v.ownBlock≠some g):w'.ownsRow b e z v n xs:=
  ho.kept h (.inr hne)
theorem AaB{t e:AcR}(hr:∀(z:Int) (w:AcK),(Adt t 1 #[(0, .int .u8 z)]).run P w = .ok (.slice (some ⟨w.heap.size,0,none⟩) 1 1) (w.alloc (.cells #[.int .u8 z] e))){x:AcW}{b:UInt8}(hx:Aa ρ x=B8 b) 
    (hk:∀v w',NewB e w w' v [b]→K v w'):Yk P K ((execOp (Aa ρ) ⟨d, .buildSlice t 1 #[(0,x)],ty,pos,af,gd⟩).run P w):=by
  have hr' :(execOp (Aa ρ) ⟨d, .buildSlice t 1 #[(0,x)],ty,pos,af,gd⟩).run P w = .ok (.value (.slice (some ⟨w.heap.size,0,none⟩) 1 1)) (w.alloc (.cells #[B8 b] e)):=by
    have:=hr (b.toNat:Int) w;unfold execOp;simp only[Ads,Ado,AdA,hx,Ac1];rw[this];rfl
  rw[hr'];exact hk _ _ (Hx w e [b] (by simp))
theorem Acv{t e:AcR}(hr:∀(w:AcK),(Adt t 0 #[]).run P w = .ok (.slice (some ⟨w.heap.size,0,none⟩) 0 0) (w.alloc (.cells #[] e))) 
    (hk:∀v w',NewB e w w' v []→K v w'):Yk P K ((execOp (Aa ρ) ⟨d, .buildSlice t 0 #[],ty,pos,af,gd⟩).run P w):=by
  have hr' :(execOp (Aa ρ) ⟨d, .buildSlice t 0 #[],ty,pos,af,gd⟩).run P w = .ok (.value (.slice (some ⟨w.heap.size,0,none⟩) 0 0)) (w.alloc (.cells #[] e)):=by
    unfold execOp;simp only[Ads,AdA,Ac1,hr,AcV,Ac3]
  rw[hr'];exact hk _ _ (Hx w e [] (by decide))
theorem AbB{t e:AcR}{n:Nat}{parts:Array (Nat × AcW)}(l:List UInt8)(hl:l.length≤9223372036854775807)(hr:∀(σ:Ad) (w:AcK),(execOp (Aa σ) ⟨d, .buildSlice t n parts,ty,pos,af,gd⟩).run P w = .ok (.value (.slice (some ⟨w.heap.size,0,none⟩) l.length l.length)) (w.alloc (.cells (AcL l).toArray e))) 
    (hk:∀v w',NewB e w w' v l→K v w'):Yk P K ((execOp (Aa ρ) ⟨d, .buildSlice t n parts,ty,pos,af,gd⟩).run P w):=by
  rw[hr];exact hk _ _ (Hx w e l hl)
theorem Jk{l:List UInt8}{i:Nat}(hi:i<l.length):(AcL l)[i]? =some (B8 (l.getD i 0)):=by simp[AcL,hi]
theorem Bf{l:List UInt32}{i:Nat}(hi:i<l.length):(l.map fun x=>U x)[i]? =some (U (l.getD i 0)):=by simp[hi]
theorem MV(l:List UInt8)(i:Nat)(x:UInt8):(AcL l).set i (B8 x)=AcL (l.set i x):=by simp[AcL,AhN]
theorem cellAt{b:Nat}{l:List AcJ}{t:AcR}{fr:Nat × Nat}(h:w.heap[b]? =some (.cells l.toArray t fr)){i:Nat}{v:AcJ}(hi:l[i]? =some v):w.cell? ⟨b,i,none⟩=some v:=by
  simp[Afc,h,hi]
theorem ZK{t' :AcR}{x y:AcW}{g i:Nat}{cs:List AcJ}{t:AcR}{v:AcJ}(hx:Aa ρ x = .pointer (some ⟨g,i,none⟩))(hy:Aa ρ y=v)(hg:w.heap[g]? =some (.cells cs.toArray t (0,0)))(hi:i<cs.length)(hinfo:(P.info? t').map (·.size)=some 1)(hv:v.cells = #[v])(h1:v.oneCell' =true) 
    (hk:∀w',w'.heap[g]? =some (.cells (cs.set i v).toArray t (0,0))→w.grownBy w' (some g)→w'.heap.size=w.heap.size→K undef w'):Yk P K ((execOp (Aa ρ) ⟨d, .store t' x y,ty,pos,af,gd⟩).run P w):=by
  have hst:=run_storeCells_at P g i t [v] 0 cs.toArray w hg (by simp;omega) (by simpa using h1);have e:(cs.toArray.toList.take (i+0)++ [v]++cs.toArray.toList.drop (i+0+ [v].length))=cs.set i v:=by
    rw[List.set_eq_take_append_cons_drop,if_pos hi];simp
  rw[e]at hst;have hr:(Afq t' (.pointer (some ⟨g,i,none⟩)) v).run P w = .ok () (w.setRow g (cs.set i v).toArray):=by
    cases hq:P.info? t' with
    | none=>simp[hq]at hinfo
    | some q=>
      have hs:q.size=1:=by simp[hq]at hinfo;omega
      simp[Afq,Aff,storeVar,sizeOf,typeInfo,hq,hv,hs,hst]
  unfold execOp;simp only[hx,hy,hr,Ac1,AcV,Ac3];exact hk _ (setRow_heap w g cs.toArray _ t (0,0) hg) ⟨rfl,rfl,rfl,by simp,fun k _ hk=>setRow_other w g k _ (fun e=>hk (by rw[e]))⟩ (by simp)
theorem Aaw{t' :AcR}{x y:AcW}{g i:Nat}{l:List UInt8}{t:AcR}{v:UInt8}(hx:Aa ρ x = .pointer (some ⟨g,i,none⟩))(hy:Aa ρ y=B8 v)(hg:w.heap[g]? =some (.cells (AcL l).toArray t (0,0)))(hi:i<l.length)(hinfo:(P.info? t').map (·.size)=some 1) 
    (hk:∀w',w'.heap[g]? =some (.cells (AcL (l.set i v)).toArray t (0,0))→w.grownBy w' (some g)→w'.heap.size=w.heap.size→K undef w'):Yk P K ((execOp (Aa ρ) ⟨d, .store t' x y,ty,pos,af,gd⟩).run P w):=
  ZK hx hy hg (by rw[AcZ];exact hi) hinfo rfl rfl fun w' h1 h2 h3=>hk w' (by rw[←MV];exact h1) h2 h3
theorem AaI{t' :AcR}{x y:AcW}{g i:Nat}{l:List UInt32}{t:AcR}{v:UInt32}(hx:Aa ρ x = .pointer (some ⟨g,i,none⟩))(hy:Aa ρ y=U v)(hg:w.heap[g]? =some (.cells (l.map fun x=>U x).toArray t (0,0)))(hi:i<l.length)(hinfo:(P.info? t').map (·.size)=some 1) 
    (hk:∀w',w'.heap[g]? =some (.cells ((l.set i v).map fun x=>U x).toArray t (0,0))→w.grownBy w' (some g)→w'.heap.size=w.heap.size→K undef w'):Yk P K ((execOp (Aa ρ) ⟨d, .store t' x y,ty,pos,af,gd⟩).run P w):=
  ZK hx hy hg (by simpa using hi) hinfo rfl rfl fun w' h1 h2 h3=>hk w' (by rw[AhN];exact h1) h2 h3
theorem Zy{t' :AcR}{x y:AcW}{g:Nat}{cells cur:Array AcJ}{t:AcR}(hx:Aa ρ x = .pointer (some ⟨g,0,none⟩))(hy:Aa ρ y = .agg cells)(hg:w.heap[g]? =some (.cells cur t (0,0)))(hs:cells.size=cur.size)(hi:(P.info? t').map (·.size)=some cells.size)(h1:∀v∈cells.toList,v.oneCell' =true) 
    (hk:∀w',w'.heap[g]? =some (.cells cells t (0,0))→w.grownBy w' (some g)→w'.heap.size=w.heap.size→K undef w'):Yk P K ((execOp (Aa ρ) ⟨d, .store t' x y,ty,pos,af,gd⟩).run P w):=by
  have hr:=GC (P:=P) w g t' cells cur t hg hs hi h1;unfold execOp;simp only[hx,hy,hr,Ac1,AcV,Ac3];exact hk _ (setRow_heap w g cur cells t (0,0) hg) ⟨rfl,rfl,rfl,by simp,fun k _ hk=>setRow_other w g k _ (fun e=>hk (by rw[e]))⟩ (by simp)
theorem Zz{t' :AcR}{x:AcW}{g:Nat}{cs:Array AcJ}{t:AcR}{fr:Nat × Nat}{de:TypeDesc}(hx:Aa ρ x = .pointer (some ⟨g,0,none⟩))(hg:w.heap[g]? =some (.cells cs t fr))(hu:P.underlying t' =some de)(hd:(match de with | .struct _ | .array _ _=>true | _=>false)=true)(hi:(P.info? t').map (·.size)=some cs.size) 
    (hk:K (.agg cs) w):Yk P K ((execOp (Aa ρ) ⟨d, .load t' x,ty,pos,af,gd⟩).run P w):=by
  have hr:=run_loadVar_row w g t t' cs fr de hg hu hd hi;refine Yk.value (v:= .agg cs) (w' :=w) ?_ hk;unfold execOp;simp[hx,AiQ,Aff,hr]
def BI:AcJ→Nat
  | .slice _ n _=>n
  | _=>0
theorem E5{b:Nat}{e:AcR}{z n:Nat}{xs:List AcJ}{v:AcJ}(h:w.ownsRow b e z v n xs):BI v=n:=by
  rcases h.2 with ⟨rfl,h0⟩ | ⟨g,cap,cur,rfl,-⟩
  · exact h0.symm
  · rfl
theorem RB.sliceLen{v:AcJ}{l:List UInt8}(h:RB w v l):BI v=l.length:=by
  obtain⟨-,ao,cap,rfl,-⟩:=h;rfl
theorem Dq{b:Nat}{e:AcR}{v:AcJ}{l l' :List UInt8}(h:w.ownsRow b e 1 v l.length (AcL l))(e' :l=l'):w.ownsRow b e 1 v l'.length (AcL l'):=by rw[←e'];exact h
theorem A1{g:Nat}{l l' :List AcJ}{t:AcR}{fr:Nat × Nat}(h:w.heap[g]? =some (.cells l.toArray t fr))(e:l=l'):w.heap[g]? =some (.cells l'.toArray t fr):=by rw[←e];exact h
theorem Z1{t e:AcR}(ht:P.underlying t=some (.slice e))(he:∀w' :AcK,(sizeOf e).run P w' = .ok 1 w'){x lo:AcW}{v:AcJ}{xs:List UInt8}(hx:Aa ρ x=v)(h:RB w v xs){k:AdU}{l:Nat}(hlo:Aa ρ lo = .int k (l:Int))(hl:l≤xs.length) 
    (hk:∀v',RB w v' (xs.drop l)→v'.ownBlock=v.ownBlock→K v' w):Yk P K ((execOp (Aa ρ) ⟨d, .slice t x (some lo) none none,ty,pos,af,gd⟩).run P w):=by
  obtain⟨ao,c,⟨hrun,hb⟩,hR⟩:=Do ht he h (some (.int k l)) none l xs.length hl (AcP _) (.inr ⟨k,rfl⟩) (.inl ⟨rfl,rfl⟩);have hR' :=AaD (AcP _) hR;rw[AdD (by rw[Ac5];exact AcP _)]at hR';refine Yk.value (v:= .slice ao (xs.length-l) c) (w' :=w) ?_ (hk _ hR' hb);unfold execOp;simp only[hx,hlo,Aeb,AeG,hrun,Ac1,Ac3,AcV]
theorem Aag{t e:AcR}(ht:P.underlying t=some (.slice e))(he:∀w' :AcK,(sizeOf e).run P w' = .ok 1 w'){x hi:AcW}{v:AcJ}{xs:List UInt8}(hx:Aa ρ x=v)(h:RB w v xs){k:AdU}{n:Nat}(hhi:Aa ρ hi = .int k (n:Int))(hn:n≤xs.length) 
    (hk:∀v',RB w v' (xs.take n)→v'.ownBlock=v.ownBlock→K v' w):Yk P K ((execOp (Aa ρ) ⟨d, .slice t x none (some hi) none,ty,pos,af,gd⟩).run P w):=by
  obtain⟨ao,c,⟨hrun,hb⟩,hR⟩:=Do ht he h none (some (.int k n)) 0 n (Adm _) hn (.inl ⟨rfl,rfl⟩) (.inr ⟨k,rfl⟩);have hR' :=AaD hn hR;rw[Afg,AiR]at hR';refine Yk.value (v:= .slice ao (n-0) c) (w' :=w) ?_ (hk _ hR' hb);unfold execOp;simp only[hx,hhi,Aeb,AeG,hrun,Ac1,Ac3,AcV]
theorem Aas{t e:AcR}(ht:P.underlying t=some (.slice e))(he:∀w' :AcK,(sizeOf e).run P w' = .ok 1 w'){x lo hi:AcW}{v:AcJ}{xs:List UInt8}(hx:Aa ρ x=v)(h:RB w v xs){k k' :AdU}{l n:Nat}(hlo:Aa ρ lo = .int k (l:Int))(hhi:Aa ρ hi = .int k' (n:Int))(hl:l≤n)(hn:n≤xs.length) 
    (hk:∀v',RB w v' ((xs.drop l).take (n-l))→v'.ownBlock=v.ownBlock→K v' w):Yk P K ((execOp (Aa ρ) ⟨d, .slice t x (some lo) (some hi) none,ty,pos,af,gd⟩).run P w):=by
  obtain⟨ao,c,⟨hrun,hb⟩,hR⟩:=Do ht he h (some (.int k l)) (some (.int k' n)) l n hl hn (.inr ⟨k,rfl⟩) (.inr ⟨k',rfl⟩);refine Yk.value (v:= .slice ao (n-l) c) (w' :=w) ?_ (hk _ (AaD hn hR) hb);unfold execOp;simp only[hx,hlo,hhi,Aeb,AeG,hrun,Ac1,Ac3,AcV]
theorem AbG{t' :AcR}{x y:AcW}{g:Nat}{cells:Array AcJ}{cur:List AcJ}{t:AcR}(hx:Aa ρ x = .pointer (some ⟨g,0,none⟩))(hy:Aa ρ y = .agg cells)(hg:w.heap[g]? =some (.cells cur.toArray t (0,0)))(hs:cells.size≤cur.length)(hi:(P.info? t').map (·.size)=some cells.size)(h1:∀v∈cells.toList,v.oneCell' =true) 
    (hk:∀w',w'.heap[g]? =some (.cells (cells.toList++cur.drop cells.size).toArray t (0,0))→w.grownBy w' (some g)→w'.heap.size=w.heap.size→K undef w'):Yk P K ((execOp (Aa ρ) ⟨d, .store t' x y,ty,pos,af,gd⟩).run P w):=by
  have hst:=run_storeCells_at P g 0 t cells.toList 0 cur.toArray w hg (by simpa using hs) h1;have e:(cur.toArray.toList.take (0+0)++cells.toList++cur.toArray.toList.drop (0+0+cells.toList.length)).toArray=(cells.toList++cur.drop cells.size).toArray:=by simp
  rw[e]at hst;have hr:(Afq t' (.pointer (some ⟨g,0,none⟩)) (.agg cells)).run P w = .ok () (w.setRow g (cells.toList++cur.drop cells.size).toArray):=by
    cases hq:P.info? t' with
    | none=>simp[hq]at hi
    | some i=>
      have hsz:cells.size=i.size:=by simp[hq]at hi;omega
      simp[Afq,Aff,storeVar,sizeOf,typeInfo,hq,Ahm,hsz,hst]
  unfold execOp;simp only[hx,hy,hr,Ac1,AcV,Ac3];exact hk _ (setRow_heap w g cur.toArray _ t (0,0) hg) ⟨rfl,rfl,rfl,by simp,fun k _ hk=>setRow_other w g k _ (fun e=>hk (by rw[e]))⟩ (by simp)
theorem Z0{t' :AcR}{x:AcW}{g o:Nat}{cs:List AcJ}{de:TypeDesc}(hx:Aa ρ x = .pointer (some ⟨g,o,none⟩))(hc:w.rangeAt g o cs)(hu:P.underlying t' =some de)(hd:de.isRow=true)(hi:(P.info? t').map (·.size)=some cs.length) 
    (hk:K (.agg cs.toArray) w):Yk P K ((execOp (Aa ρ) ⟨d, .load t' x,ty,pos,af,gd⟩).run P w):=by
  refine Yk.value (v:= .agg cs.toArray) (w' :=w) ?_ hk;simp only[execOp,hx,Ac1,run_loadAt_mid w g o t' cs de hc hu hd hi,AcV,Ac3]
section
variable {Q : BE} {K : Ad → AcK → Prop}
theorem tN(h:K ρ w):GD K Q .normal ρ w:=h
theorem Iu(h:Q .ret ρ w):GD K Q .ret ρ w:=h
theorem Np{i:Nat}(h:Q .normal ρ w):ET i Q (.exit i) ρ w:=by
  simp only[ET,if_true];exact h
theorem MW{i j:Nat}(hij:(Ae9 j i)=false)(h:Q (.exit j) ρ w):ET i Q (.exit j) ρ w:=by
  simp only[ET];rw[if_neg (fun e=>by subst e;simp at hij)];exact h
end
theorem Aa9{xType e:AcR}{n:Nat}(ht:P.underlying xType=some (.array n e)){de:TypeDesc}(he:P.underlying e=some de)(hd:(match de with | .struct _ | .array _ _=>false | _=>true)=true)(hs:∀w' :AcK,(sizeOf e).run P w' = .ok 1 w'){x y:AcW}{cs:List AcJ}{v:AcJ}{i:Nat}{k:AdU} 
    (hx:Aa ρ x = .agg cs.toArray) (hy:Aa ρ y = .int k (i:Int)) (hi:i<n) (hv:cs[i]? =some v) (hk:K v w):Yk P K ((execOp (Aa ρ) ⟨d, .index xType x y,ty,pos,af,gd⟩).run P w):=by
  have hagg:(isAgg e).run P w = .ok false w:=by
    unfold isAgg;rw[Ac1,run_underlying he w];cases de <;> simp_all
  refine Yk.value (v:=v) (w' :=w) ?_ hk;unfold execOp;simp only[hx,hy,Instr.index,asIntOf,Ac1,Ac3,AcV,run_underlying ht];rw[if_pos (by omega)];simp[hs,part,hagg,hv]
theorem AbC{xType e:AcR}{n:Nat}(ht:P.underlying xType=some (.array n e)){de:TypeDesc}(he:P.underlying e=some de)(hd:(match de with | .struct _ | .array _ _=>false | _=>true)=true)(hs:∀w' :AcK,(sizeOf e).run P w' = .ok 1 w'){x y:AcW}{l:List UInt32}{i:Nat}{k:AdU} 
    (hx:Aa ρ x = .agg (l.map fun x=>U x).toArray) (hy:Aa ρ y = .int k (i:Int)) (hi:i<n) (hl:l.length=n) (hk:K (U (l.getD i 0)) w):Yk P K ((execOp (Aa ρ) ⟨d, .index xType x y,ty,pos,af,gd⟩).run P w):=
  Aa9 ht he hd hs hx hy hi (Bf (by omega)) hk
theorem Acw{xType e:AcR}{n:Nat}(ht:P.underlying xType=some (.array n e)){de:TypeDesc}(he:P.underlying e=some de)(hd:(match de with | .struct _ | .array _ _=>false | _=>true)=true)(hs:∀w' :AcK,(sizeOf e).run P w' = .ok 1 w'){x y:AcW}{l:List UInt8}{i:Nat}{k:AdU} 
    (hx:Aa ρ x = .agg (AcL l).toArray) (hy:Aa ρ y = .int k (i:Int)) (hi:i<n) (hl:l.length=n) (hk:K (B8 (l.getD i 0)) w):Yk P K ((execOp (Aa ρ) ⟨d, .index xType x y,ty,pos,af,gd⟩).run P w):=
  Aa9 ht he hd hs hx hy hi (Jk (by omega)) hk
theorem EZ{t:AcR}(h:(match P.underlying t with | some (.struct _)=>true | _=>false)=true):∃fs,P.underlying t=some (.struct fs):=by
  split at h
  · exact⟨_,‹_›⟩
  · cases h
theorem ZJ{t e:AcR}{n:Nat}(ht:P.underlying t=some (.array n e))(he:∀w' :AcK,(sizeOf e).run P w' = .ok 1 w'){x y:AcW}{b i:Nat}{k:AdU} 
    (hx:Aa ρ x = .pointer (some ⟨b,0,none⟩)) (hy:Aa ρ y = .int k (i:Int)) (hi:i<n) (hk:K (.pointer (some ⟨b,i,none⟩)) w):Yk P K ((execOp (Aa ρ) ⟨d, .indexAddr t x y,ty,pos,af,gd⟩).run P w):=
  Ace ht he hx hy hi (by rw[Ad4];exact hk)
theorem KA{t e:AcR}(ht:P.underlying t=some (.pointer e))(a:Option Addr)(w:AcK):(Agy t (.pointer a) (.pointer none)).run P w = .ok a.isNone w:=by
  unfold Agy;rw[show Aie=(Aie-1)+1 from rfl];cases a <;> simp[Aip,run_underlying ht,Ac1,Ac3]
theorem ZR{t e ty2:AcR}(ht:P.underlying t=some (.pointer e)){x:AcW}{a:Option Addr}(hx:Aa ρ x = .pointer a)(hk:K (.bool a.isNone) w):Yk P K ((execOp (Aa ρ) ⟨d, .binOp .eql t x (.const (.pointer none)) ty2,ty,pos,af,gd⟩).run P w):=by
  have hy:Aa ρ (.const (.pointer none)) = .pointer none:=rfl;refine Yk.value (v:= .bool a.isNone) (w' :=w) ?_ hk;have hr:=KA ht a w;unfold execOp;simp only[hx,hy];cases a <;> simp[eqGuard,Adq,hr]
theorem AbT{t e ty2:AcR}(ht:P.underlying t=some (.pointer e)){x:AcW}{a:Option Addr}(hx:Aa ρ x = .pointer a)(hk:K (.bool !a.isNone) w):Yk P K ((execOp (Aa ρ) ⟨d, .binOp .neq t x (.const (.pointer none)) ty2,ty,pos,af,gd⟩).run P w):=by
  have hy:Aa ρ (.const (.pointer none)) = .pointer none:=rfl;refine Yk.value (v:= .bool !a.isNone) (w' :=w) ?_ hk;have hr:=KA ht a w;unfold execOp;simp only[hx,hy];cases a <;> simp[eqGuard,Adq,hr]
theorem Ab{w0 w1 w2:AcK}{g:Nat}(h0:Ext w0 w1)(h:w1.grownBy w2 (some g))(hg:w0.heap.size≤g):Ext w0 w2:=
  Ago h0 h h0.size (fun k hk=>by cases hk;exact hg)
end
/-! ### Numbers that are not below 0 -/
section
theorem AI(t:AcR)(k:AdU)(a b:Nat):Adq .lss t (.int k (a:Int)) (.int k (b:Int))=pure (.bool (decide (a<b))):=by
  simp[Adq,Afz]
theorem DD(t:AcR)(k:AdU)(a b:Nat):Adq .leq t (.int k (a:Int)) (.int k (b:Int))=pure (.bool (decide (a≤b))):=by
  simp[Adq,Afz]
theorem Bh(t:AcR)(k:AdU)(a b:Nat):Adq .gtr t (.int k (a:Int)) (.int k (b:Int))=pure (.bool (decide (b<a))):=by
  simp[Adq,Afz]
theorem EM(t:AcR)(k:AdU)(a b:Nat):Adq .geq t (.int k (a:Int)) (.int k (b:Int))=pure (.bool (decide (b≤a))):=by
  simp[Adq,Afz]
theorem AF(t:AcR)(k:AdU)(a b:Nat):Adq .eql t (.int k (a:Int)) (.int k (b:Int))=pure (.bool (decide (a=b))):=by
  have:((a:Int)==(b:Int))=decide (a=b):=by rw[AfV];simp;omega
  simp[Adq,Afz,this]
theorem AY(t:AcR)(k:AdU)(a b:Nat):Adq .neq t (.int k (a:Int)) (.int k (b:Int))=pure (.bool (decide (a≠b))):=by
  have:((a:Int) != (b:Int))=decide (a≠b):=by rw[AfV];simp;omega
  simp[Adq,Afz,this]
theorem FV(t:AcR)(k:AdU)(a b:Int):Adq .lss t (.int k a) (.int k b)=pure (.bool (decide (a<b))):=by simp[Adq,Afz]
theorem YK(t:AcR)(k:AdU)(a b:Int):Adq .leq t (.int k a) (.int k b)=pure (.bool (decide (a≤b))):=by simp[Adq,Afz]
theorem Qk(t:AcR)(k:AdU)(a b:Int):Adq .gtr t (.int k a) (.int k b)=pure (.bool (decide (b<a))):=by simp[Adq,Afz]
theorem M8(t:AcR)(k:AdU)(a b:Int):Adq .geq t (.int k a) (.int k b)=pure (.bool (decide (b≤a))):=by simp[Adq,Afz]
theorem YL(t:AcR)(k:AdU)(a b:Int):Adq .eql t (.int k a) (.int k b)=pure (.bool (decide (a=b))):=by
  have:(a==b)=decide (a=b):=by rw[AfV];simp
  simp[Adq,Afz,this]
theorem CZ(n:Nat)(h:n<9223372036854775808):IntKind.i64.wrap (n:Int)=(n:Int):=by
  simp only[Agw,Ad0,AeK];have:(n:Int)%(2^64:Int)=n:=by omega
  simp only[this];rw[if_neg];simp;omega
theorem Ag(t:AcR)(a b:Nat)(h:a+b<9223372036854775808):Adq .add t (.int .i64 (a:Int)) (.int .i64 (b:Int))=pure (.int .i64 ((a+b:Nat):Int)):=by
  unfold Adq;simp only[ne_eq,not_true_eq_false,if_false,Agn];rw[←Int.natCast_add,CZ _ h]
theorem Cq(t:AcR)(a b:Nat)(h:a*b<9223372036854775808):Adq .mul t (.int .i64 (a:Int)) (.int .i64 (b:Int))=pure (.int .i64 ((a*b:Nat):Int)):=by
  unfold Adq;simp only[ne_eq,not_true_eq_false,if_false,Agn];rw[←AhZ,CZ _ h]
theorem BN(t:AcR)(a b:Nat)(h:a<9223372036854775808)(hb:b≤a):Adq .sub t (.int .i64 (a:Int)) (.int .i64 (b:Int))=pure (.int .i64 ((a-b:Nat):Int)):=by
  unfold Adq;simp only[ne_eq,not_true_eq_false,if_false,Agn];rw[←Int.natCast_sub hb,CZ _ (by omega)]
theorem Ly(t:AcR)(a b:Nat)(h:a<9223372036854775808)(hb:0<b):Adq .quo t (.int .i64 (a:Int)) (.int .i64 (b:Int))=pure (.int .i64 ((a/b:Nat):Int)):=by
  unfold Adq;simp only[ne_eq,not_true_eq_false,if_false,Op.intDiv];rw[if_neg (by omega),←Int.ofNat_tdiv,CZ _ (AfW (Nat.div_le_self a b) h)]
theorem Hb(t:AcR)(a b:Nat)(hb:0<b):Adq .rem t (.int .i64 (a:Int)) (.int .i64 (b:Int))=pure (.int .i64 ((a%b:Nat):Int)):=by
  unfold Adq;simp only[ne_eq,not_true_eq_false,if_false,Op.intDiv];rw[if_neg (by omega),←Int.ofNat_tmod]
theorem Lz(t:AcR)(a:Nat)(j:AdU)(n:Nat)(hn:n<64):Adq .shr t (.int .i64 (a:Int)) (.int j (n:Int))=pure (.int .i64 ((a/2^n:Nat):Int)):=by
  unfold Adq;simp only[AhJ,Ad0];rw[if_neg (by omega),Ac0,AfT (by omega)];have:(a:Int).fdiv (2^n)=((a/2^n:Nat):Int):=by
    rw[show(2^n:Int)=((2^n:Nat):Int) by simp,Afr _ (AfU _)];rfl
  rw[this]
theorem Jl(t:AcR)(a:Nat)(j:AdU)(n:Nat)(hn:n<64)(h:a*2^n<9223372036854775808):Adq .shl t (.int .i64 (a:Int)) (.int j (n:Int))=pure (.int .i64 ((a*2^n:Nat):Int)):=by
  unfold Adq;simp only[AhJ,Ad0];rw[if_neg (by omega),Ac0,AfT (by omega)];have:(a:Int)*2^n=((a*2^n:Nat):Int):=by simp
  rw[this,CZ _ h]
theorem JX(n:Nat)(h:n<18446744073709551616):IntKind.u64.wrap (n:Int)=(n:Int):=by
  simp only[Agw,Ad0,AeK];have:(n:Int)%(2^64:Int)=n:=by omega
  simp only[this];simp
theorem WE(t:AcR)(a b:Nat)(h:a*b<18446744073709551616):Adq .mul t (.int .u64 (a:Int)) (.int .u64 (b:Int))=pure (.int .u64 ((a*b:Nat):Int)):=by
  unfold Adq;simp only[ne_eq,not_true_eq_false,if_false,Agn];rw[←AhZ,JX _ h]
theorem WF(t:AcR)(a b:Nat)(h:a<18446744073709551616)(hb:b≤a):Adq .sub t (.int .u64 (a:Int)) (.int .u64 (b:Int))=pure (.int .u64 ((a-b:Nat):Int)):=by
  unfold Adq;simp only[ne_eq,not_true_eq_false,if_false,Agn];rw[←Int.natCast_sub hb,JX _ (by omega)]
theorem WG(t:AcR)(a:Nat)(j:AdU)(n:Nat)(hn:n<64):Adq .shr t (.int .u64 (a:Int)) (.int j (n:Int))=pure (.int .u64 ((a/2^n:Nat):Int)):=by
  unfold Adq;simp only[AhJ,Ad0];rw[if_neg (by omega),Ac0,AfT (by omega)];have:(a:Int).fdiv (2^n)=((a/2^n:Nat):Int):=by
    rw[show(2^n:Int)=((2^n:Nat):Int) by simp,Afr _ (AfU _)];rfl
  rw[this]
theorem WH(n:Nat)(h:n<256):IntKind.u8.wrap (n:Int)=(n:Int):=by
  simp only[Agw,Ad0,AeK];have:(n:Int)%(2^8:Int)=n:=by omega
  simp only[this];simp
theorem X2(t:AcR)(a:Nat)(j:AdU)(n:Nat)(hn:n<8):Adq .shr t (.int .u8 (a:Int)) (.int j (n:Int))=pure (.int .u8 ((a/2^n:Nat):Int)):=by
  unfold Adq;simp only[AhJ,Ad0];rw[if_neg (by omega),Ac0,AfT (by omega)];have:(a:Int).fdiv (2^n)=((a/2^n:Nat):Int):=by
    rw[show(2^n:Int)=((2^n:Nat):Int) by simp,Afr _ (AfU _)];rfl
  rw[this]
theorem Hc(n:Nat):IntKind.u8.wrap (n:Int)=((AdQ n).toNat:Int):=by
  rw[Pz];simp
theorem KB(k:AdU)(b:UInt8)(h:∀n:Nat,n<256→k.wrap (n:Int)=(n:Int)):k.wrap (b.toNat:Int)=((b.toNat:Nat):Int):=h _ b.toNat_lt
end
variable {P : Adg}
def Dd(l1 l2:List UInt8):List Nat→Bool
  | []=>true
  | i :: r=>if l1.getD i 0=l2.getD i 0 then Dd l1 l2 r else false
theorem Iv(l1 l2:List UInt8):∀is:List Nat,Dd l1 l2 is=true↔∀i∈is,l1.getD i 0=l2.getD i 0
  | []=>by simp[Dd]
  | i :: r=>by
    have ih:=Iv l1 l2 r;unfold Dd;split
    · rename_i h
      rw[ih];constructor
      · intro h2 j hj;rcases Adz.1 hj with rfl | hj
        · exact h
        · exact h2 j hj
      · exact fun h2 j hj=>h2 j (AdO _ hj)
    · rename_i h
      constructor
      · intro h2;cases h2
      · intro h2;exact absurd (h2 i (by simp)) h
theorem byte_eq(a b:UInt8):((a.toNat:Int)==(b.toNat:Int))=decide (a=b):=by
  rw[AfV];simp;constructor
  · intro h;exact Agr.1 (by omega)
  · intro h;rw[h]
theorem run_eqArray(w:AcK){t e:AcR}{n d:Nat}(ht:P.underlying t=some (.array n e))(he:P.underlying e=some (.int .u8))(hs:(sizeOf e).run P w = .ok 1 w)(l1 l2:List UInt8)(h1:l1.length=n)(h2:l2.length=n):
    (Aip (d+1+1) t (.agg (AcL l1).toArray) (.agg (AcL l2).toArray)).run P w = .ok (decide (l1=l2)) w:=by
  have hagg:(isAgg e).run P w = .ok false w:=by
    unfold isAgg;rw[Ac1,run_underlying he w];rfl
  have hpart:∀(l:List UInt8) (i:Nat),i<l.length→(part e (AcL l).toArray (i*1)).run P w = .ok (.int .u8 ((l.getD i 0).toNat:Int)) w:=fun l i hi=>by
    unfold part;rw[Ac1,hagg];simp[AcL,hi,Ac3]
  have key:∀(is:List Nat),(∀i∈is,i<n)→∀(f:Nat→(Option Bool × Unit)→Sem (ForInStep ((Option Bool × Unit)))),
      (∀i r,i<n→(f i r).run P w=if l1.getD i 0=l2.getD i 0 then .ok (.yield (none,())) w else .ok (.done (some false,())) w) →
      ∀r,r.1=none→(forIn is r f).run P w = .ok (if Dd l1 l2 is=true then none else some false,()) w:=by
    intro is
    induction is with
    | nil=>
      intro _ f _ r hr;obtain⟨a,b⟩:=r;simp at hr;subst hr;simp[Dd,Ac3]
    | cons i is ih=>
      intro hi f hf r hr;simp only[List.forIn_cons,Ac1,hf i r (hi i (by simp))];by_cases h:l1.getD i 0=l2.getD i 0
      · rw[if_pos h];simp only[AcV];rw[ih (fun j hj=>hi j (AdO _ hj)) f hf (none,()) rfl];simp only[Dd,if_pos h]
      · rw[if_neg h];simp only[AcV,Ac3,Dd,if_neg h];rfl
  obtain⟨D,hD⟩:∃D,D=d+1:=⟨_,rfl⟩;rw[←hD];simp only[Aip,Ac1,run_underlying ht,AcV,hs];rw[Std.Legacy.Range.forIn_eq_forIn_range'];have hsz:([:n]:Std.Legacy.Range).size=n:=by simp[Std.Legacy.Range.size]
  rw[hsz,key (Ahn 0 n 1) (fun i hi=>by simpa using hi)]
  · have hiff:=Iv l1 l2 (Ahn 0 n 1);have hl:l1=l2↔Dd l1 l2 (Ahn 0 n 1)=true:=by
      rw[hiff];constructor
      · intro h i _;rw[h]
      · intro h
        apply AgT (by omega)
        intro i hi1 hi2;have:=h i (by simp;omega)
        simpa [hi1,hi2] using this
    by_cases h:l1=l2
    · rw[hl.1 h,decide_eq_true h];simp[Ac3]
    · have h' :Dd l1 l2 (Ahn 0 n 1)=false:=by
        cases hb:Dd l1 l2 (Ahn 0 n 1)with
        | false=>rfl
        | true=>exact absurd (hl.2 hb) h
      rw[h',decide_eq_false h];simp[Ac3]
  · intro i r hi;simp only[Ac1,hpart l1 i (by omega),hpart l2 i (by omega),AcV,hD,run_equalIn_int w d e .u8 .u8 _ _ he];by_cases h:l1.getD i 0=l2.getD i 0
    · rw[if_pos h,byte_eq,decide_eq_true h];simp[Ac3]
    · rw[if_neg h,byte_eq,decide_eq_false h];simp[Ac3]
  · rfl
theorem MX(w:AcK){t e:AcR}{n:Nat}(ht:P.underlying t=some (.array n e))(he:P.underlying e=some (.int .u8))(hs:(sizeOf e).run P w = .ok 1 w)(hg:P.eqGuardType P.depth t=false)(l1 l2:List UInt8)(h1:l1.length=n)(h2:l2.length=n)(x y:AcW):
    (do eqGuard .eql t x y (.agg (AcL l1).toArray) (.agg (AcL l2).toArray);binOp .eql t (.agg (AcL l1).toArray) (.agg (AcL l2).toArray):Sem AcJ).run P w = .ok (.bool (decide (l1=l2))) w:=by
  have he2:(eqGuard .eql t x y (.agg (AcL l1).toArray) (.agg (AcL l2).toArray)).run P w = .ok () w:=by
    simp[eqGuard,hg]
  rw[Ac1,he2,AcV,run_eql_struct,run_eqArray (d:=9998) w ht he hs l1 l2 h1 h2];rfl
theorem OV{ρ:AcW→AcJ}{d:Option Tmp}{x y:AcW}{ty2 tt:AcR}{pos:String}{af:Array AdL}{gd:Option (Nat × Bool)}{w:AcK}{t e:AcR}{n:Nat}(ht:P.underlying t=some (.array n e))(he:P.underlying e=some (.int .u8))(hs:(sizeOf e).run P w = .ok 1 w)(hg:P.eqGuardType P.depth t=false){l1 l2:List UInt8}(h1:l1.length=n)(h2:l2.length=n) 
    (hx:ρ x = .agg (AcL l1).toArray) (hy:ρ y = .agg (AcL l2).toArray):(execOp ρ ⟨d, .binOp .eql t x y ty2,tt,pos,af,gd⟩).run P w = .ok (.value (.bool (decide (l1=l2)))) w:=by
  have h:=MX (P:=P) w ht he hs hg l1 l2 h1 h2 x y;simp only[execOp,hx,hy];rw[Ac1,h];rfl
def RBs(w:AcK)(v:AcJ)(ls:List (List UInt8)):Prop:=∃vs:List AcJ,vs.length=ls.length∧Reads w 1 v ls.length vs∧∀i,i<ls.length→RB w (vs.getD i undef) (ls.getD i [])
theorem AaS{w w' :AcK}(h:Ext w w'){a:Addr}{v:AcJ}(hc:w.cell? a=some v):w'.cell? a=some v:=by
  rw[Below.cell h (Ad7 w a hc)];exact hc
theorem Reads.keep{w w' :AcK}{z n:Nat}{v:AcJ}{xs:List AcJ}(h:Reads w z v n xs)(k:Ext w w'):Reads w' z v n xs:=by
  obtain⟨h1,ao,cap,rfl,h2,h3,h4,h5⟩:=h;exact⟨h1,ao,cap,rfl,h2,h3,h4,fun a ha j u hu=>AaS k (h5 a ha j u hu)⟩
theorem RBs.keep{w w' :AcK}{v:AcJ}{ls:List (List UInt8)}(h:RBs w v ls)(k:Ext w w'):RBs w' v ls:=by
  obtain⟨vs,h1,h2,h3⟩:=h;exact⟨vs,h1,h2.keep k,fun i hi=>(h3 i hi).keep k⟩
theorem RBs.nil(w:AcK):RBs w (.slice none 0 0) []:=⟨[],rfl,⟨rfl,none,0,rfl,AcP _,by simp[maxLen],fun _=>⟨rfl,rfl⟩,fun a h=>by cases h⟩,fun i hi=>by simp at hi⟩
theorem RB.nil(w:AcK):RB w (.slice none 0 0) []:=⟨rfl,none,0,rfl,AcP _,by simp[maxLen],fun _=>⟨rfl,rfl⟩,fun a h=>by cases h⟩
theorem AbU{w w' :AcK}{v:AcJ}(h:RB w v []):RB w' v []:=by
  obtain⟨h1,ao,cap,rfl,h2,h3,h4,h5⟩:=h;exact⟨h1,ao,cap,rfl,h2,h3,h4,fun a ha j u hu=>by simp[AcL]at hu⟩
theorem RB.lt{w:AcK}{v:AcJ}{l:List UInt8}(h:RB w v l)(hl:0<l.length){b:Nat}(hb:v.ownBlock=some b):b<w.heap.size:=by
  obtain⟨b',off,cap,rfl,-,-,h1,-⟩:=h.open_ hl;simp[AcT]at hb;omega
theorem RB.slice{w:AcK}{v:AcJ}{l:List UInt8}(h:RB w v l):∃ao n c,v = .slice ao n c:=by
  obtain⟨h1,ao,cap,rfl,-⟩:=h;exact⟨ao,_,cap,rfl⟩
section
variable {P : Adg} {K : AcJ → AcK → Prop} {ρ : Ad} {w : AcK} {d : Option Tmp} {ty : AcR} {pos : String} {af : Array AdL} {gd : Option (Nat × Bool)}
theorem AcF{v x:AcJ}{l:List (List UInt8)}(h:RBs w v l)(e:x=v):RBs w x l:=by rw[e];exact h
theorem JC{w:AcK}{b:Nat}{xs:List AcJ}{t:AcR}{fr:Nat × Nat}(hb:w.heap[b]? =some (.cells xs.toArray t fr))(hl:xs.length≤maxLen):Reads w 1 (.slice (some ⟨b,0,none⟩) xs.length xs.length) xs.length xs:=
  ⟨by simp,_,_,rfl,AcP _,hl,fun h=>by simp at h,fun a ha j u hu=>by
    cases ha;rw[Aek,Ad4];exact cellAt hb hu⟩
theorem Aae{t e:AcR}(hr:∀(ao:Option Addr) (n c:Nat) (w:AcK),(Adt t 1 #[(0, .slice ao n c)]).run P w = .ok (.slice (some ⟨w.heap.size,0,none⟩) 1 1) (w.alloc (.cells #[.slice ao n c] e))){x:AcW}{l:List UInt8}(hx:RB w (Aa ρ x) l) 
    (hk:∀v w',RBs w' v [l]→Ext w w' →K v w'):Yk P K ((execOp (Aa ρ) ⟨d, .buildSlice t 1 #[(0,x)],ty,pos,af,gd⟩).run P w):=by
  obtain⟨ao,n,c,hv⟩:=hx.slice;rw[hv]at hx;have hr' :(execOp (Aa ρ) ⟨d, .buildSlice t 1 #[(0,x)],ty,pos,af,gd⟩).run P w = .ok (.value (.slice (some ⟨w.heap.size,0,none⟩) 1 1)) (w.alloc (.cells #[.slice ao n c] e)):=by
    unfold execOp;simp only[Ads,Ado,AdA,hv,Ac1,hr,AcV,Ac3]
  rw[hr'];have hE:Ext w (w.alloc (.cells #[.slice ao n c] e)):=(AdC _ _).alloc (AcP _) _;refine hk _ _ ⟨[.slice ao n c],rfl,JC (xs:= [.slice ao n c]) (heap_alloc_new w _) (by simp[maxLen]),fun i hi=> ?_⟩ hE;have:i=0:=by simp at hi;omega
  subst this;exact hx.keep hE
theorem Acf{t e:AcR}(hr:∀(ao:Option Addr) (n c:Nat) (ao' :Option Addr) (n' c' :Nat) (w:AcK),(Adt t 2 #[(0, .slice ao n c),(1, .slice ao' n' c')]).run P w = .ok (.slice (some ⟨w.heap.size,0,none⟩) 2 2) (w.alloc (.cells #[.slice ao n c, .slice ao' n' c'] e))){x y:AcW}{l m:List UInt8}(hx:RB w (Aa ρ x) l)(hy:RB w (Aa ρ y) m) 
    (hk:∀v w',RBs w' v [l,m]→Ext w w' →K v w'):Yk P K ((execOp (Aa ρ) ⟨d, .buildSlice t 2 #[(0,x),(1,y)],ty,pos,af,gd⟩).run P w):=by
  obtain⟨ao,n,c,hv⟩:=hx.slice;obtain⟨ao',n',c',hv'⟩:=hy.slice;rw[hv]at hx;rw[hv']at hy;have hr' :(execOp (Aa ρ) ⟨d, .buildSlice t 2 #[(0,x),(1,y)],ty,pos,af,gd⟩).run P w = .ok (.value (.slice (some ⟨w.heap.size,0,none⟩) 2 2)) (w.alloc (.cells #[.slice ao n c, .slice ao' n' c'] e)):=by
    unfold execOp;simp only[Ads,Ado,AdA,hv,hv',Ac1,hr,AcV,Ac3]
  rw[hr'];have hE:Ext w (w.alloc (.cells #[.slice ao n c, .slice ao' n' c'] e)):=(AdC _ _).alloc (AcP _) _;refine hk _ _ ⟨[.slice ao n c, .slice ao' n' c'],rfl,JC (xs:= [.slice ao n c, .slice ao' n' c']) (heap_alloc_new w _) (by simp[maxLen]),fun i hi=> ?_⟩ hE;have:i=0∨i=1:=by simp at hi;omega
  rcases this with rfl | rfl
  · exact hx.keep hE
  · exact hy.keep hE
theorem AcI{t e:AcR}(ht:P.underlying t=some (.slice e))(he:∀w' :AcK,(sizeOf e).run P w' = .ok 1 w'){x y:AcW}{ls:List (List UInt8)}(h:RBs w (Aa ρ x) ls){k:AdU}{i:Nat}(hy:Aa ρ y = .int k (i:Int))(hi:i<ls.length) 
    (hk:∀v u,PCell u v w→RB w u (ls.getD i [])→K v w):Yk P K ((execOp (Aa ρ) ⟨d, .indexAddr t x y,ty,pos,af,gd⟩).run P w):=by
  obtain⟨vs,h1,h2,h3⟩:=h;have hu:=h3 i hi;obtain⟨h4,ao,cap,hv,h5,h6,h7,h8⟩:=h2;cases ao with
  | none=>have:=(h7 rfl).1;omega
  | some a=>
    obtain⟨b,o,sp⟩:=a;have hc:=h8 _ rfl i (vs.getD i undef) (by simp[show i<vs.length by omega]);have h0:=h8 _ rfl 0 (vs.getD 0 undef) (by simp[show 0<vs.length by omega]);have hsp:sp=none:=by simpa [AeO] using AfC h0
    subst hsp;rw[Aek]at hc;exact AaK ht he hv hy hi (hk _ _ ⟨_,rfl,hc⟩ hu)
theorem AbV{w0:AcK}(E:Ext w0 w){t e:AcR}(ht:P.underlying t=some (.slice e))(he:∀w' :AcK,(sizeOf e).run P w' = .ok 1 w'){x y:AcW}{c:AcJ}{ls:List (List UInt8)}(h:RBs w0 c ls)(hx:Aa ρ x=c){k:AdU}{i:Nat}(hy:Aa ρ y = .int k (i:Int))(hi:i<ls.length) 
    (hk:∀v u,PCell u v w→RB w0 u (ls.getD i [])→K v w):Yk P K ((execOp (Aa ρ) ⟨d, .indexAddr t x y,ty,pos,af,gd⟩).run P w):=by
  obtain⟨vs,h1,h2,h3⟩:=h;have hu:=h3 i hi;obtain⟨h4,ao,cap,hv,h5,h6,h7,h8⟩:=h2;cases ao with
  | none=>have:=(h7 rfl).1;omega
  | some a=>
    obtain⟨b,o,sp⟩:=a;have hc:=h8 _ rfl i (vs.getD i undef) (by simp[show i<vs.length by omega]);have h0:=h8 _ rfl 0 (vs.getD 0 undef) (by simp[show 0<vs.length by omega]);have hsp:sp=none:=by simpa [AeO] using AfC h0
    subst hsp;rw[Aek]at hc;exact AaK ht he (hx.trans hv) hy hi (hk _ _ ⟨_,rfl,AaS E hc⟩ hu)
theorem AbW{t e:AcR}(ht:P.underlying t=some (.slice e)){x:AcW}{ls:List (List UInt8)}{w0:AcK}(h:RBs w0 (Aa ρ x) ls)(hk:K (NI ls.length) w):Yk P K ((execOp (Aa ρ) ⟨d, .call ⟨.builtin .len,#[x],#[t]⟩,ty,pos,af,gd⟩).run P w):=by
  obtain⟨vs,h1,⟨h4,ao,cap,hv,-⟩,h3⟩:=h;exact AaE ht hv hk
theorem Abl{t e ty2:AcR}{n:Nat}(ht:P.underlying t=some (.array n e))(he:P.underlying e=some (.int .u8))(hs:∀w:AcK,(sizeOf e).run P w = .ok 1 w)(hg:P.eqGuardType P.depth t=false){x y:AcW}{l1 l2:List UInt8}(hx:Aa ρ x = .agg (AcL l1).toArray)(hy:Aa ρ y = .agg (AcL l2).toArray)(h1:l1.length=n)(h2:l2.length=n) 
    (hk:K (.bool (decide (l1=l2))) w):Yk P K ((execOp (Aa ρ) ⟨d, .binOp .eql t x y ty2,ty,pos,af,gd⟩).run P w):=
  Yk.value (OV ht he (hs w) hg h1 h2 hx hy) hk
theorem AaN{t e ty2:AcR}{n:Nat}(ht:P.underlying t=some (.array n e))(he:P.underlying e=some (.int .u8))(hs:∀w:AcK,(sizeOf e).run P w = .ok 1 w)(hg:P.eqGuardType P.depth t=false){x y:AcW}{l1 l2:List UInt8}(hx:Aa ρ x = .agg (AcL l1).toArray)(hy:Aa ρ y = .agg (AcL l2).toArray)(h1:l1.length=n)(h2:l2.length=n) 
    (hk:K (.bool (decide (l1≠l2))) w):Yk P K ((execOp (Aa ρ) ⟨d, .binOp .neq t x y ty2,ty,pos,af,gd⟩).run P w):=by
  have he2:(eqGuard .neq t x y (.agg (AcL l1).toArray) (.agg (AcL l2).toArray)).run P w = .ok () w:=by
    simp[eqGuard,hg]
  have heq:(Agy t (.agg (AcL l1).toArray) (.agg (AcL l2).toArray)).run P w = .ok (decide (l1=l2)) w:=run_eqArray (d:=9998) w ht he (hs w) l1 l2 h1 h2;have hb:(!decide (l1=l2))=decide (l1≠l2):=by simp
  refine Yk.value (v:= .bool (decide (l1≠l2))) (w' :=w) ?_ hk;unfold execOp;simp only[hx,hy,Ac1,he2,AcV,Adq,heq,Ac3,hb]
theorem Abv{t e:AcR}(ht:P.underlying t=some (.slice e))(he:P.underlying e=some (.int .u8)){x:AcW}{v:AcJ}{b:Nat}{l:List UInt8}(hx:Aa ρ x=v)(ho:w.ownsRow b e 1 v l.length (AcL l))(hl:0<l.length) 
    (hk:∀w',RB w' v l→Grew w w' v v→K v w'):Yk P K ((execOp (Aa ρ) ⟨d, .convert t t x,ty,pos,af,gd⟩).run P w):=by
  rcases ho.2 with ⟨rfl,h0⟩ | ⟨g,cap,cur,rfl,hbg,hg,hnc,hcm,hcs,htake⟩
  · omega
  · have hlt:g<w.heap.size:=(Ade.1 hg).1;have hsh:w.shape? g=some (e,cur.size):=by
      unfold AiS;rw[hg]
    have hr:(convert t t (.slice (some ⟨g,0,none⟩) l.length cap)).run P w = .ok (.slice (some ⟨g,0,none⟩) l.length cap) (w.freeze ⟨g,cur.size,none⟩ 1):=by
      simp[convert,run_underlying ht,run_underlying he,markStringish,hsh]
    have hold:∀k,k≠g→(w.freeze ⟨g,cur.size,none⟩ 1).heap[k]? =w.heap[k]? :=fun k hk=>by
      simp[AhO,Aig,AgY hk]
    have hnew:(w.freeze ⟨g,cur.size,none⟩ 1).heap[g]? =some (.cells cur e (cur.size,cur.size+1)):=by
      have hg' :=hg;rw[Ade]at hg';obtain⟨h1,h2⟩:=hg';simp[AhO,Aig,hg]
    have hsz:(w.freeze ⟨g,cur.size,none⟩ 1).heap.size=w.heap.size:=by simp[AhO]
    refine Yk.value (v:= .slice (some ⟨g,0,none⟩) l.length cap) (w' :=w.freeze ⟨g,cur.size,none⟩ 1) ?_ (hk _ ?_ ⟨⟨?_,?_,?_,by omega,fun k _ hne=>hold k (fun e=>hne (by rw[e];rfl))⟩,fun k h=> .inl h⟩)
    · unfold execOp;simp only[hx,Ac1,hr,AcV,Ac3]
    · have hb:=ZP ho;obtain⟨h1,ao,c2,hv,h3,h4,h5,h6⟩:=hb;simp only[Value.slice.injEq,true_and]at hv;obtain⟨rfl,rfl⟩:=hv;refine⟨h1,_,_,rfl,h3,h4,h5,fun a ha j u hu=> ?_⟩;have hc:=h6 a ha j u hu;cases ha;rw[Aek]at hc ⊢;simp only[Afc,hg]at hc;simp only[Afc,hnew];exact hc
    all_goals simp[AhO]
end
section
variable {P : Adg} {K : AcJ → AcK → Prop} {ρ : Ad} {w : AcK} {d : Option Tmp} {ty : AcR} {pos : String} {af : Array AdL} {gd : Option (Nat × Bool)}
theorem Aa1{t:AcR}(ht:P.underlying t=some .string){x y:AcW}{l:List UInt8}{k:AdU}{i:Nat}(hx:Aa ρ x=St l)(hy:Aa ρ y = .int k (i:Int))(hi:i<l.length)(hk:K (B8 (l.getD i 0)) w):Yk P K ((execOp (Aa ρ) ⟨d, .index t x y,ty,pos,af,gd⟩).run P w):=by
  refine Yk.value (v:=B8 (l.getD i 0)) (w' :=w) ?_ hk;have hb:(⟨l.toArray⟩:ByteArray)[i]? =some (l.getD i 0):=by
    rw[getElem?_pos (⟨l.toArray⟩:ByteArray) i (show i<l.toArray.size by simpa using hi)];show some (l.toArray[i]'(by simpa using hi))=_;simp[hi]
  unfold execOp;simp only[hx,hy,Instr.index,asIntOf,Ac1,Ac3,AcV,run_underlying ht];rw[if_pos (by omega),Ac0,hb];rfl
theorem Ql(l:List UInt8)(a b:Nat):(⟨l.toArray⟩:ByteArray).extract a b=⟨((l.drop a).take (b-a)).toArray⟩:=by
  apply ByteArray.ext
  rw[ByteArray.data_extract];simp only[List.extract_toArray,List.extract_eq_take_drop]
theorem Aa4{t:AcR}(ht:P.underlying t=some .string){x:AcW}{lo hi:Option AcW}{l:List UInt8}(a b:Nat)(hx:Aa ρ x=St l)(hlo:lo.map (Aa ρ)=none∧a=0∨∃k,lo.map (Aa ρ)=some (.int k a))(hhi:hi.map (Aa ρ)=none∧b=l.length∨∃k,hi.map (Aa ρ)=some (.int k b))(hab:a≤b)(hb:b≤l.length) 
    (hk:K (St ((l.drop a).take (b-a))) w):Yk P K ((execOp (Aa ρ) ⟨d, .slice t x lo hi none,ty,pos,af,gd⟩).run P w):=by
  refine Yk.value (v:=St ((l.drop a).take (b-a))) (w' :=w) ?_ hk;have hs:(⟨l.toArray⟩:ByteArray).size=l.length:=by show l.toArray.size=_;simp
  have hr:(Agl t (St l) (lo.map (Aa ρ)) (hi.map (Aa ρ)) none).run P w = .ok (St ((l.drop a).take (b-a))) w:=by
    have hE:=Ql l a b;rcases hlo with ⟨h1,rfl⟩ | ⟨k,h1⟩ <;> rcases hhi with ⟨h2,rfl⟩ | ⟨k',h2⟩ <;> rw[h1,h2] <;>
      simp[Agl,Instr.slice,run_underlying ht,Instr.sliceBounds,Instr.sliceBound,asIntOf,hs] <;>
      first
        | (simp[hE];done)
        | (rw[if_pos (by omega)];simp[hE];done)
        | (rw[if_pos hb,if_pos hab,hE];done)
        | (intro h;omega)
  unfold execOp;simp only[hx,AeG,hr,Ac1,Ac3,AcV]
theorem PA(l:List UInt8):(⟨l.toArray⟩:ByteArray).toList=l:=by
  rw[ByteArray.toList_eq]
theorem Wm(l m:List UInt8):((⟨l.toArray⟩:ByteArray).toList==(⟨m.toArray⟩:ByteArray).toList)=decide (l=m):=by
  rw[PA,PA,AfV];simp
theorem Aao{op:BinOp}(hop:op = .eql∨op = .neq){t ty2:AcR}{x y:AcW}{l m:List UInt8}(hx:Aa ρ x=St l)(hy:Aa ρ y=St m)(b:Bool)(hb:b=match op with | .eql=>decide (l=m) | _=>decide (l≠m))(hk:K (.bool b) w):Yk P K ((execOp (Aa ρ) ⟨d, .binOp op t x y ty2,ty,pos,af,gd⟩).run P w):=by
  refine Yk.value (v:= .bool b) (w' :=w) ?_ hk;subst hb;have hn:(!decide (l=m))=decide (l≠m):=by simp
  unfold execOp;rcases hop with rfl | rfl
  · simp only[hx,hy,eqGuard,Adq,Op.stringOp,Wm,Ac1,Ac3];rfl
  · simp only[hx,hy,eqGuard,Adq,Op.stringOp,Wm,hn,Ac1,Ac3];rfl
theorem Abm{t ty2:AcR}{x y:AcW}{l m:List UInt8}(hx:Aa ρ x=St l)(hy:Aa ρ y=St m)(hb:l.length+m.length≤9223372036854775807)(hk:K (St (l++m)) w):Yk P K ((execOp (Aa ρ) ⟨d, .binOp .add t x y ty2,ty,pos,af,gd⟩).run P w):=
  AbR hx hy hb hk
theorem Aam{t:AcR}(ht:P.underlying t=some .string){x:AcW}{l:List UInt8}(hx:Aa ρ x=St l)(hk:K (NI l.length) w):Yk P K ((execOp (Aa ρ) ⟨d, .call ⟨.builtin .len,#[x],#[t]⟩,ty,pos,af,gd⟩).run P w):=by
  have hs:(⟨l.toArray⟩:ByteArray).size=l.length:=by show l.toArray.size=_;simp
  exact AbS ht hx (by rw[hs];exact hk)
theorem Yk.extract{x:AcW}{vs:List AcJ}{i:Nat}{v:AcJ}(hx:Aa ρ x = .tuple vs.toArray)(hv:vs[i]? =some v)(hk:K v w):Yk P K ((execOp (Aa ρ) ⟨d, .extract x i,ty,pos,af,gd⟩).run P w):=by
  refine Yk.value (v:=v) (w' :=w) ?_ hk;unfold execOp;simp[hx,Instr.extract,hv]
theorem AbH{f:AeB}{at_:Array AcR}{x:AcW}{a v:AcJ}(hx:Aa ρ x=a)(hr:(callFunc f #[a]).run P w = .ok (.value v) w)(hk:K v w):Yk P K ((execOp (Aa ρ) ⟨d, .call ⟨.value (.func f),#[x],at_⟩,ty,pos,af,gd⟩).run P w):=by
  refine Yk.value (v:=v) (w' :=w) ?_ hk;have hf:Aa ρ (.func f) = .func (.func f) #[] #[]:=rfl;unfold execOp;simp[resolve,hf,AfA,invoke,hx,hr]
theorem M9{x0 y0:AcJ}(h0:x0=y0): [x0]= [y0]:=by rw[h0]
theorem FA{x0 x1 y0 y1:AcJ}(h0:x0=y0)(h1:x1=y1): [x0,x1]= [y0,y1]:=by rw[h0,h1]
theorem Wn{x0 x1 x2 y0 y1 y2:AcJ}(h0:x0=y0)(h1:x1=y1)(h2:x2=y2): [x0,x1,x2]= [y0,y1,y2]:=by rw[h0,h1,h2]
theorem Qm{x0 x1 x2 x3 y0 y1 y2 y3:AcJ}(h0:x0=y0)(h1:x1=y1)(h2:x2=y2)(h3:x3=y3): [x0,x1,x2,x3]= [y0,y1,y2,y3]:=by rw[h0,h1,h2,h3]
theorem Aav{f:AeB}(hp:Plain P f){c:AcW}{args:Array AcW}{at_:Array AcR}{caps:Array AcJ}(hc:Aa ρ c = .func (.func f) #[] caps)(vs:Array AcJ)(hv:args.map (Aa ρ)++caps=vs) 
    (h:Calls P f vs w fun e w' =>∃v,e = .returned v∧K v w'):Yk P K ((execOp (Aa ρ) ⟨d, .call ⟨.value c,args,at_⟩,ty,pos,af,gd⟩).run P w):=by
  subst hv;refine Yk.enter (f:=f) (args:=args.map (Aa ρ)++caps) (w' :=w) ?_ h;unfold execOp;simp[resolve,hc,AfA,invoke,hp _ w]
theorem Z8{f:Fn}{caps:Array AcW}{vs:Array AcJ}(hv:caps.map (Aa ρ)=vs)(hk:K (.func f #[] vs) w):Yk P K ((execOp (Aa ρ) ⟨d, .makeFunc f #[] caps,ty,pos,af,gd⟩).run P w):=by
  refine Yk.value (v:= .func f #[] vs) (w' :=w) ?_ hk;unfold execOp;simp[Instr.makeFunc,hv]
theorem Aaf{e:AcR}{x:AcW}{v:AcJ}(hx:Aa ρ x=v)(hv:v.cells = #[v]) 
    (hk:∀n w',w.heap.size=n→w'.heap[n]? =some (.cells ([v]:List AcJ).toArray e (0,0))→Ext w w' →w'.heap.size=n+1→K (.pointer (some ⟨n,0,none⟩)) w'):Yk P K ((execOp (Aa ρ) ⟨d, .box e x,ty,pos,af,gd⟩).run P w):=by
  have hr:(execOp (Aa ρ) ⟨d, .box e x,ty,pos,af,gd⟩).run P w = .ok (.value (.pointer (some ⟨w.heap.size,0,none⟩))) (w.alloc (.cells #[v] e)):=by
    show((Instr.box e (Aa ρ x)).run P w).andThen (fun v w=>AhY (Aio v) w)=_;rw[hx];simp[Instr.box,newVar,hv];rfl
  rw[hr];exact hk _ _ rfl (heap_alloc_new w _) ((AdC _ _).alloc (AcP _) _) (by simp)
end
theorem Ce{w:AcK}{b:Nat}{e:AcR}{z n:Nat}{v:AcJ}{xs:List AcJ}(h:w.ownsRow b e z v n xs):v.cells = #[v]∧v.oneCell' =true:=by
  rcases h.2 with ⟨rfl,_⟩ | ⟨g,cap,cur,rfl,-⟩ <;> exact⟨rfl,rfl⟩
theorem RB.one{w:AcK}{v:AcJ}{l:List UInt8}(h:RB w v l):v.cells = #[v]∧v.oneCell' =true:=by
  obtain⟨-,ao,cap,rfl,-⟩:=h;exact⟨rfl,rfl⟩
/-! ### Bits of numbers that are not below 0 -/
theorem Zl(t:AcR)(a b:Nat)(ha:a<9223372036854775808)(hb:b<9223372036854775808):Adq .and t (.int .i64 (a:Int)) (.int .i64 (b:Int))=pure (.int .i64 ((a&&&b:Nat):Int)):=by
  unfold Adq;simp only[ne_eq,not_true_eq_false,if_false,AgH,Ad0,Age];have h1:(AeT 64 a&&&AeT 64 b).toNat=a&&&b:=by
    rw[BitVec.toNat_and,Afl,Afl,Aed (by omega),Aed (by omega)]
  show pure (AeJ .i64 (IntKind.i64.wrap (((AeT 64 a&&&AeT 64 b).toNat:Nat):Int)))=_;rw[h1,CZ _ (AfW Nat.and_le_left ha)]
theorem KC(t:AcR)(a b:Nat)(ha:a<9223372036854775808)(hb:b<9223372036854775808):Adq .or t (.int .i64 (a:Int)) (.int .i64 (b:Int))=pure (.int .i64 ((a|||b:Nat):Int)):=by
  unfold Adq;simp only[ne_eq,not_true_eq_false,if_false,AgH,Ad0,Age];have h1:(AeT 64 a|||AeT 64 b).toNat=a|||b:=by
    rw[BitVec.toNat_or,Afl,Afl,Aed (by omega),Aed (by omega)]
  show pure (AeJ .i64 (IntKind.i64.wrap (((AeT 64 a|||AeT 64 b).toNat:Nat):Int)))=_;rw[h1,CZ _ (Ahz (n:=63) ha hb)]
theorem X3(t:AcR)(a b:Nat)(ha:a<256)(hb:b<256):Adq .and t (.int .u8 (a:Int)) (.int .u8 (b:Int))=pure (.int .u8 ((a&&&b:Nat):Int)):=by
  unfold Adq;simp only[ne_eq,not_true_eq_false,if_false,AgH,Ad0,Age];have h1:(AeT 8 a&&&AeT 8 b).toNat=a&&&b:=by
    rw[BitVec.toNat_and,Afl,Afl,Aed (by omega),Aed (by omega)]
  show pure (AeJ .u8 (IntKind.u8.wrap (((AeT 8 a&&&AeT 8 b).toNat:Nat):Int)))=_;rw[h1,WH _ (AfW Nat.and_le_left ha)]
theorem KD(h l k:Nat)(hl:l<2^k):h*2^k|||l=h*2^k+l:=by
  rw[←AhK,Ag8 hl]
/-! ### The last operation in the frame as it then is -/
section
variable {P : Adg} {l : List Adb} {kill : Nat → List Nat} {C : Nat → AcK → Prop} {R : Nat → AcK → AcK → Prop} {Φ : Nat → Bm} {a0 : Act}
theorem Yk.mono'{K K' :AcJ→AcK→Prop}{r:AhI Next}(h:Yk P K r)(hm:∀v w,K v w→K' v w):Yk P K' r:=by
  cases r with
  | halt x w' =>exact h.elim
  | ok n w' =>
    cases n <;> simp only[Yk]at h ⊢
    case value v=>exact hm _ _ h
    case skip=>exact hm _ _ h
    case enter f args=>exact h.mono fun e w'' ⟨v,h1,h2⟩=>⟨v,h1,hm _ _ h2⟩
def StepsFL(P:Adg)(l:List Adb)(L:Nat)(C:Nat→AcK→Prop)(R:Nat→AcK→AcK→Prop)(Φ:Nat→Bm)(ρ:Ad):Nat→List Adb→Prop
  | _,[]=>True
  | n,o :: r=>(bif Ae9 n L then True else EL P l C R Φ ρ n o)∧StepsFL P l L C R Φ ρ (n+1) r
theorem DF{L n:Nat}{ρ:Ad}{o:Adb}(h:EL P l C R Φ ρ n o):bif Ae9 n L then True else EL P l C R Φ ρ n o:=by
  cases Ae9 n L
  · exact h
  · trivial
theorem StepsFL.get{L:Nat}{ρ:Ad}:∀(r:List Adb) (n:Nat),StepsFL P l L C R Φ ρ n r→∀k o,r[k]? =some o→n+k≠L→EL P l C R Φ ρ (n+k) o
  | [],_,_,k,o,h,_=>by simp at h
  | o' :: r,n,hs,0,o,h,hne=>by
    simp only[Afe,Aey]at h;subst h;have h1:=hs.1;rw[show Ae9 n L=false by rw[←AgU,Nat.beq_eq];exact hne]at h1;exact h1
  | o' :: r,n,hs,k+1,o,h,hne=>by
    rw[Aem]at h;have:=StepsFL.get r (n+1) hs.2 k o h (by omega)
    rwa [show n+1+k=n+(k+1) by omega]at this
theorem WI(g:GY l a0.tmps.size)(hkl:CJ l kill=true){L:Nat}{oL:Adb}(hn:FU l L=true)(hoL:l[L]? =some oL)(hgL:oL.guard=none)(hdL:oL.dst=none) 
    (hC:∀n m,n<l.length→m<l.length→n≠m→((AL l []).getD n 0).testBit m=false→∀w w',C m w→R n w w' →C m w') (hΦ:∀n i,n<l.length→i<l.length→i∉kill n→i≠n→((AL l []).getD i 0).testBit n=false→∀v w w',Φ i v w→R n w w' →Φ i v w') (hRr:∀n o w,l[n]? =some o→o.guard.isSome=true→R n w w) (hs:∀i o,l[i]? =some o→i≠L→Gf P l C R Φ a0.tmps i o) {Q:Afj→Act→AcK→Prop}
    (hQ:∀listed a' w',(∀i,i<l.length→i≠L→On listed i)→¬On listed L→Inv l kill C (fun _ _=>True) Φ a0 listed a' w' →Yk P (fun _ w'' =>Q .normal a' w'') ((execOp a'.eval oL).run P w')):
    ∀(fuel:Nat) (listed:Array Bool) (a:Act) (w:AcK),(listed.toList.filter (!·)).length=fuel→¬On listed L→Inv l kill C (fun _ _=>True) Φ a0 listed a w→wpAny P .any l.toArray Q fuel listed a w:=by
  obtain⟨hlen,hb⟩:=FD hn;have rdy:∀(listed:Array Bool),listed.size=l.length→(∀i,i<l.length→On listed i)→AdV .any l.toArray listed= []:=by
    intro listed hsz hon;cases hr:AdV .any l.toArray listed with
    | nil=>rfl
    | cons x xs=>
      exfalso;have hm:x∈AdV .any l.toArray listed:=by rw[hr];simp
      obtain⟨h1,o,ho,_⟩:=mem_ready.1 hm;have hx:x<l.length:=by simpa using (Ade.1 ho).1
      have h2:=hon x hx;have hx' :x<listed.size:=h2.lt;unfold On at h2;simp[hx']at h1 h2;rw[h1]at h2;cases h2
  intro fuel
  induction fuel with
  | zero=>
    intro listed a w hf hoff h;exfalso;have:=E1 _ hf L (by rw[Aew,h.size];omega);exact hoff (by unfold On;simp at this;simp[this])
  | succ fuel ih=>
    intro listed a w hf hoff h;have hstep:∀i∈AdV .any l.toArray listed,∃o,l[i]? =some o∧¬On listed i∧(∀e∈o.after,Ad1 .any e=true→On listed e.on)∧((listed.setIfInBounds i true).toList.filter (!·)).length=fuel:=by
      intro i hi;obtain⟨h1,o,ho,hall⟩:=mem_ready.1 hi;have ho' :l[i]? =some o:=by simpa using ho
      have hil:i<listed.size:=by rw[h.size];exact(Adc.1 ho').1
      refine⟨o,ho',?_,fun e he hb=>hall e he hb,?_⟩
      · unfold On;simp[hil]at h1 ⊢;exact h1
      · rw[Ae1];have:=EY listed.toList i (by
          simp[hil]at h1;simp[hil,h1])
        omega
    refine⟨fun hr=> ?_,fun i hi=> ?_⟩
    · exfalso;have full:∀i,i<l.length→On listed i:=by
        intro i
        induction i using Ae0 with
        | _ i ih=>
          intro hi;refine AdW fun hno=> ?_;have ho:l[i]? =some l[i]:=AcS hi;have:i∈AdV .any l.toArray listed:=by
            refine mem_ready.2 ⟨?_,l[i],by rw[AdG];exact ho,fun e he hb=> ?_⟩
            · have hi' :i<listed.size:=by rw[h.size];exact hi
              unfold On at hno;simp[hi']at hno ⊢;exact hno
            · have hlt:=g.back i _ ho e he hb;exact ih e.on hlt (by omega)
          rw[hr]at this;cases this
      exact hoff (full L (by omega))
    · obtain⟨o,ho,hno,hall,hcnt⟩:=hstep i hi;by_cases hiL:i=L
      · subst hiL;obtain rfl:oL=o:=by rw[hoL]at ho;exact Adu ho
        have hon:∀j,j<l.length→j≠i→On listed j:=fun j hj hne=>h.maskReady ho hall (hb j (by omega));have hst:=hQ listed a w hon hno h;have hall' :∀j,j<l.length→On (listed.setIfInBounds i true) j:=fun j hj=>by
          by_cases hji:j=i
          · exact(on_set (by rw[h.size];omega)).2 (.inl hji)
          · exact(on_set (by rw[h.size];omega)).2 (.inr (hon j hj hji))
        have hr:=rdy (listed.setIfInBounds i true) (by simpa using h.size) hall';have fin:∀v w',Q .normal a w' →wpAny P .any l.toArray Q fuel (listed.setIfInBounds i true) (a.put oL.dst v) w' :=fun v w' hq=>by
          have b:a.put oL.dst v=a:=by rw[hdL];rfl
          rw[b];cases fuel with
          | zero=>exact⟨hr,hq⟩
          | succ m=>exact⟨fun _=>hq,fun j hj=>by rw[hr]at hj;cases hj⟩
        unfold wpOp;simp only[AdG,ho];have hw:Ad8 oL (yielded l.toArray a.tmps)=true:=by unfold Ad8;rw[hgL]
        rw[if_pos hw];refine .inl ?_;unfold Afn
        generalize (execOp a.eval oL).run P w=r at hst ⊢
        cases r with
        | halt x w' =>exact hst.elim
        | ok n w' =>
          cases n <;> simp only[Yk]at hst <;> simp only[AfQ]
          case value v=>exact fin _ _ hst
          case skip=>exact fin _ _ hst
          case enter f args=>
            refine hst.mono fun e w'' hx=> ?_;obtain⟨v,rfl,h1⟩:=hx;exact fin _ _ h1
      · refine h.step g hkl hC (fun _ _ _ _ _ _ _ _ _ _=>trivial) hΦ hRr ho hno hall (hs i o ho hiL) fun a' w' h' =>ih _ _ _ hcnt (fun hx=> ?_) h';exact((on_set (by rw[h.size];exact(Adc.1 ho).1)).1 hx).elim (fun e=>hiL e.symm) hoff
end
section
variable {P : Adg} {n : Nat} {ρ : Ad} {w : AcK} {Q : BE}
theorem Ig{l:List Adb}(L:Nat)(oL:Adb)(ks:Nat→List Nat)(C:Nat→AcK→Prop)(R:Nat→AcK→AcK→Prop)(Φs:List Bm){id:Nat}(hm:P.follows .mixedOrders=true)(ds:List Tmp)(hg:Cw l n=true)(hn:FU l L=true)(hkl:CJ l ks=true)(hds:slotsW l=ds)(hoL:l[L]? =some oL)(hgL:oL.guard=none)(hdL:oL.dst=none) 
    (hC:∀n m,n<l.length→m<l.length→n≠m→((AL l []).getD n 0).testBit m=false→∀w w',C m w→R n w w' →C m w')
    (hΦ:∀n i,n<l.length→i<l.length→i∉ks n→i≠n→((AL l []).getD i 0).testBit n=false→∀v w w',AQ Φs i v w→R n w w' →AQ Φs i v w')
    (hRr:∀n o w,l[n]? =some o→o.guard.isSome=true→R n w w) (h0:∀n,n<l.length→C n { w with drawn:=w.drawn+1 })
    (hs:StepsFL P l L C R (AQ Φs) ρ 0 l)
    (hQ:∀(ρ' :Ad) w1,C L w1→EndF ds ρ ρ' →Bd l ks (AQ Φs) ρ' w1 ds→Yk P (fun _ w' =>Q .normal ρ' w') ((execOp (Aa ρ') oL).run P w1)):B1 P n (.region id l.toArray true) Q ρ w:=by
  intro a ha;obtain⟨T,df⟩:=a;have hz:T.size=n:=ha.size;subst hz;obtain⟨hl,hb⟩:=FD hn;have g:=Gb hg;refine wp_region_any hm (WI (a0:= { tmps:=T,defers:=df }) (C:=C) (R:=R) (Φ:=AQ Φs) g hkl hn hoL hgL hdL hC hΦ hRr (fun i o ho hi=> ?_) (fun listed a' w' hon hoff h=> ?_) _ _ _ _ (by simp) ?_ ?_)
  · have hst:=StepsFL.get l 0 hs i o ho (by omega);rw[Ad4]at hst;have h2:=StepsF.ok (P:=P) (l:=l) (C:=C) (R:=R) (Φ:=AQ Φs) (T:=T) ha.get [o] i ⟨hst,trivial⟩;exact h2.1
  · -- what the slots hold
    have hw:∀d k,Dc l d l.length=some k→(AdN l.length).all (fun n=> !(ks n).contains k)=true→AQ Φs k (a'.tmps.getD d undef) w' :=fun d k hk hall=>by
      obtain⟨h1,⟨o,ho,hd⟩,h3⟩:=DV _ hk;have hkL:k≠L:=fun e=>by subst e;rw[hoL]at ho;cases ho;rw[hdL]at hd;cases hd
      refine h.new d k o ho hd (hon k h1 hkL) (fun k' o' hkk ho' hd' _=>h3 k' o' hkk (Adc.1 ho').1 ho' hd') (fun n hn hkn=> ?_);have hnl:n<l.length:=by have:=hn.lt;rw[h.size]at this;exact this
      have:=Adv.1 hall n (by simpa using hnl);simp at this;exact this hkn
    have hget:∀t,a'.tmps.getD t undef=if t∈ds then a'.tmps.getD t undef else ρ t:=fun t=>by
      by_cases hn:t∈ds
      · rw[if_pos hn]
      · rw[if_neg hn,←ha.get];exact h.old t fun k o ho hd _=>hn (by
          rw[←hds];unfold slotsW;rw[AfR,AeI];exact⟨o,AdX ho,hd⟩)
    have hcl:=h.cls L (by omega) hoff;have hend:EndF ds ρ (fun t=>a'.tmps.getD t undef):=⟨fun t ht=>by rw[hget t,if_neg (by simpa using ht)]⟩;have:=hQ (fun t=>a'.tmps.getD t undef) w' hcl hend (ED hw ds);rw[evalR_eq]at this;refine Yk.mono' this fun v w'' hq=> ?_;exact⟨_,⟨h.tmps,h.defers.trans ha.defers,fun t=>rfl⟩,hq⟩
  · intro h;unfold On at h;rw[Ady,Aea]at h;split at h <;> simp at h
  · have hno:∀i,¬On (Aeq l.toArray.size false) i:=fun i h=>by
      unfold On at h;rw[Ady,Aea]at h;split at h <;> simp at h
    exact⟨Agd,fun i o _ h=>absurd h (hno i),rfl,rfl,fun n hn _=>h0 n hn,trivial,fun t _=>rfl,fun t k o _ _ h=>absurd h (hno k)⟩
theorem MY{l:List Adb}(k:Nat)(oL:Adb)(ks:List Nat)(Φs:List Bm){id:Nat}(hm:P.follows .mixedOrders=true)(ds:List Tmp)(hg:Cw l n=true)(hn:FU l (k+1)=true)(hk:Ni l k=true)(hkl:CJ l (fun m=>if m=k then ks else [])=true)(hds:slotsW l=ds) 
    (hoL:l[k+1]? =some oL) (hgL:oL.guard=none) (hdL:oL.dst=none) (hgk:(l[k]?.bind (·.guard))=none) (hst:AllStab Ext (Φs.take k)) (hsT:AllStabX (fun _ _=>True) ks 0 (Φs.take k))
    (hs:StepsFL P l (k+1) (fun m=>if m≤k then Ext w else fun _=>True) (fun m=>if m=k then fun _ _=>True else if m=k+1 then Eq else Ext) (AQ Φs) ρ 0 l)
    (hQ:∀(ρ' :Ad) w1,EndF ds ρ ρ' →Bd l (fun m=>if m=k then ks else []) (AQ Φs) ρ' w1 ds→Yk P (fun _ w' =>Q .normal ρ' w') ((execOp (Aa ρ') oL).run P w1)):B1 P n (.region id l.toArray true) Q ρ w:=by
  obtain⟨hl,hb⟩:=FD hn;have hm1:=Nj hk;have take:∀i,i<k→AQ Φs i=(Φs.take k).getD i (fun _ _=>True):=fun i hi=>by simp[AQ,AcO,hi]
  refine Ig (k+1) oL _ _ _ Φs hm ds hg hn hkl hds hoL hgL hdL (fun m i hm' hi hne hbit w1 w' hc hr=> ?_) (fun m i hm' hi hni hne hbit v w1 w' => ?_) (fun m o w1 ho hgo=> ?_) (fun m hm' => ?_) hs (fun ρ' w1 _=>hQ ρ' w1)
  · by_cases hik:i≤k
    · rw[if_pos hik]at hc ⊢;by_cases h1:m=k
      · subst h1;rw[hm1.1 i (by omega)]at hbit;cases hbit
      · by_cases h2:m=k+1
        · subst h2;rw[hb i (by omega)]at hbit;cases hbit
        · rw[if_neg h1,if_neg h2]at hr;exact hc.trans hr
    · rw[if_neg hik];trivial
  · by_cases h2:m=k+1
    · rw[if_neg (by omega),if_pos h2];exact fun h e=>e▸h
    · by_cases hik:i<k
      · rw[take i hik];by_cases h1:m=k
        · rw[if_pos h1]at hni ⊢;exact fun h _=>hsT.get _ 0 i (by rwa [Ad4]) v w1 w' h trivial
        · rw[if_neg h1,if_neg h2];exact hst.get _ i v w1 w'
      · exfalso;by_cases hi2:i=k
        · subst hi2;rw[hm1.1 m (by omega)]at hbit;cases hbit
        · have:i=k+1:=by omega
          subst this;rw[hb m (by omega)]at hbit;cases hbit
  · by_cases h1:m=k
    · subst h1;rw[ho]at hgk;simp only[Ae4]at hgk;rw[hgk]at hgo;cases hgo
    · by_cases h2:m=k+1
      · rw[if_neg h1,if_pos h2]
      · rw[if_neg h1,if_neg h2];exact Ext.refl w1
  · split
    · exact(AdC _ _).drew
    · trivial
theorem MZ{l:List Adb}(j L:Nat)(oL:Adb)(ks:List Nat)(Rj:AcK→AcK→Prop)(Φs:List Bm){id:Nat}(hm:P.follows .mixedOrders=true)(ds:List Tmp)(hg:Cw l n=true)(hn:FU l L=true)(hkl:CJ l (fun m=>if m=j then ks else [])=true)(hds:slotsW l=ds) 
    (hoL:l[L]? =some oL) (hgL:oL.guard=none) (hdL:oL.dst=none) (hjL:j<L) (hgk:(l[j]?.bind (·.guard))=none) (hst:AllStab Ext Φs) (hsR:AllStabX Rj (j :: ks) 0 Φs) (hR:∀a b,Ext w a→Rj a b→Ext w b)
    (hs:StepsFL P l L (fun _=>Ext w) (fun m=>if m=j then Rj else if m=L then Eq else Ext) (AQ Φs) ρ 0 l)
    (hQ:∀(ρ' :Ad) w1,Ext w w1→EndF ds ρ ρ' →Bd l (fun m=>if m=j then ks else []) (AQ Φs) ρ' w1 ds→Yk P (fun _ w' =>Q .normal ρ' w') ((execOp (Aa ρ') oL).run P w1)):B1 P n (.region id l.toArray true) Q ρ w:=by
  refine Ig L oL _ (fun _=>Ext w) _ Φs hm ds hg hn hkl hds hoL hgL hdL (fun m i hm' hi hne hbit w1 w' hc hr=> ?_) (fun m i hm' hi hni hne hbit v w1 w' => ?_) (fun m o w1 ho hgo=> ?_) (fun m hm' =>(AdC _ _).drew) hs hQ
  · by_cases h1:m=j
    · rw[if_pos h1]at hr;exact hR _ _ hc hr
    · by_cases h2:m=L
      · rw[if_neg h1,if_pos h2]at hr;exact hr▸hc
      · rw[if_neg h1,if_neg h2]at hr;exact hc.trans hr
  · by_cases h1:m=j
    · rw[if_pos h1]at hni ⊢;exact hsR.get _ 0 i (by rw[Ad4];simp only[Adz,not_or];exact⟨fun e=>hne (e.trans h1.symm),hni⟩) v w1 w'
    · by_cases h2:m=L
      · rw[if_neg h1,if_pos h2];exact fun h e=>e▸h
      · rw[if_neg h1,if_neg h2];exact hst.get _ i v w1 w'
  · by_cases h1:m=j
    · subst h1;rw[ho]at hgk;simp only[Ae4]at hgk;rw[hgk]at hgo;cases hgo
    · by_cases h2:m=L
      · rw[if_neg h1,if_pos h2]
      · rw[if_neg h1,if_neg h2];exact Ext.refl w1
end
def Yp(P:Adg)(K:AcJ→AcK→Prop)(J:List PanicEntry→AcK→Prop):AhI Next→Prop
  | .ok (.value v) w=>K v w
  | .ok .skip w=>K undef w
  | .ok (.enter f args) w=>Calls P f args w fun e w' =>match e with | .returned v=>K v w' | .panicked ch=>J ch w' | .outgrown=>False
  | .halt (.panic v) w=>J [{ v,recovered:=false }] w
  | _=>False
section
variable {P : Adg} {n : Nat} {Q : BE} {ρ : Ad} {w : AcK}
theorem Yp.ofK{K:AcJ→AcK→Prop}{J:List PanicEntry→AcK→Prop}{r:AhI Next}(h:Yk P K r):Yp P K J r:=by
  unfold Yk at h;split at h
  · exact h
  · exact h
  · exact h.mono fun e w' hx=>by
      obtain⟨v,rfl,hk⟩:=hx;exact hk
  · exact h.elim
theorem oP{ops:Array Adb}{rest:List Adb}{dst:Option Tmp}{op:Op}{ty:AcR}{pos:String}{af:Array AdL}(hd:(match dst with | some d=>AeC d n | none=>true)=true) 
    (h:Yp P (fun v w' =>Cf P ops n Q rest (updO ρ dst v) w') (fun ch w' =>Q (.panic ch) ρ w') ((execOp (Aa ρ) ⟨dst,op,ty,pos,af,none⟩).run P w)):Cf P ops n Q (⟨dst,op,ty,pos,af,none⟩ :: rest) ρ w:=by
  intro a ha;have hdn:∀t,dst=some t→t<n:=fun t ht=>by subst ht;exact Ac2 hd
  refine wpList_plain rfl fun K hK=> ?_;unfold Afn AfQ;rw[ha.eval];have hput:=fun v=>ha.put dst hdn v
  revert h
  generalize (execOp (Aa ρ) ⟨dst,op,ty,pos,af,none⟩).run P w=r
  intro h
  match r,h with
  | .ok (.value v) w',h=>exact hK _ _ (h _ (hput v))
  | .ok .skip w',h=>exact hK _ _ (h _ (hput undef))
  | .halt (.panic v) w',h=>exact⟨ρ,ha,h⟩
  | .ok (.enter f args) w',h=>
    refine AfS h ?_;intro e w'' hx
    match e,hx with
    | .returned v,hx=>exact hK _ _ (hx _ (hput v))
    | .panicked ch,hx=>exact⟨ρ,ha,hx⟩
theorem Yp.call{f:AeB}{args:Array AcW}{at_:Array AcR}{dst:Option Tmp}{ty:AcR}{pos:String}{af:Array AdL}{gd:Option (Nat × Bool)}{K:AcJ→AcK→Prop}{J:List PanicEntry→AcK→Prop}(hp:Plain P f)(vs:List AcJ)(hv:args.toList.map (Aa ρ)=vs) 
    (h:Calls P f vs.toArray w fun e w' =>match e with | .returned v=>K v w' | .panicked ch=>J ch w' | .outgrown=>False):Yp P K J ((execOp (Aa ρ) ⟨dst, .call ⟨.value (.func f),args,at_⟩,ty,pos,af,gd⟩).run P w):=by
  subst hv;have hr:=Ip hp (Aa ρ) args.toList at_ dst ty pos af gd w rfl;rw[Array.toArray_toList]at hr;rw[hr];exact h
theorem Ar{f:AeB}{args:Array AcJ}{K:AcJ→AcK→Prop}{J:List PanicEntry→AcK→Prop}{A:AcJ→AcK→Prop}{B:List PanicEntry→AcK→Prop}(h:Calls P f args w fun e w' =>(∃v,e = .returned v∧A v w')∨∃ch,e = .panicked ch∧B ch w') 
    (hA:∀v w',A v w' →K v w') (hB:∀ch w',B ch w' →J ch w'):Calls P f args w fun e w' =>match e with | .returned v=>K v w' | .panicked ch=>J ch w' | .outgrown=>False:=
  h.mono fun e w' hx=>by
    rcases hx with ⟨v,rfl,h1⟩ | ⟨ch,rfl,h1⟩
    · exact hA v w' h1
    · exact hB ch w' h1
theorem Yp.panic{dst:Option Tmp}{ty:AcR}{pos:String}{af:Array AdL}{gd:Option (Nat × Bool)}{K:AcJ→AcK→Prop}{J:List PanicEntry→AcK→Prop}{x:AcW}{u:AcR}{v:AcJ}(hx:Aa ρ x = .iface u v)(h:J [{ v:= .iface u v,recovered:=false }] w):
    Yp P K J ((execOp (Aa ρ) ⟨dst, .panic x,ty,pos,af,gd⟩).run P w):=by
  have hr:(execOp (Aa ρ) ⟨dst, .panic x,ty,pos,af,gd⟩).run P w = .halt (.panic (.iface u v)) w:=by
    simp[execOp,hx,Instr.panic,goPanic]
  rw[hr];exact h
def CF(P:Adg)(fn:AfB)(R:Afa→AcK→Prop):BE
  | .normal,ρ,w | .ret,ρ,w=>∀tmps:Array AcJ,(∀t,tmps.getD t undef=ρ t)→∃v,(results fn tmps).run P w = .ok v w∧R (.returned v) w
  | .panic ch,_,w=>R (.panicked ch) w
  | _,_,_=>False
theorem Iw{f:AeB}{fn:AfB}{c:Ae5}{args:List AcJ}{R:Afa→AcK→Prop}(hf:P.funcs[f]? =some fn)(hb:fn.body=some c)(m:Nat)(hm:fn.ntmps=m)(hn:args.length≤m) 
    (h:∀ρ,Begun args ρ→B1 P m c (CF P fn R) ρ w):Calls P f args.toArray w R:=by
  subst hm;refine calls_of_wp hf hb ?_;have hget:∀t,(args.toArray++Aeq (fn.ntmps-args.toArray.size) undef).getD t undef=args.getD t undef:=fun t=>by
    simp only[Ady,AcO,AgZ,Ac6,AdG];by_cases ht:t<args.length
    · rw[if_pos ht]
    · rw[if_neg ht,AdY (by omega),Aea];split <;> rfl
  refine wp_mono (h (fun t=>args.getD t undef) ⟨fun _=>rfl⟩ _ ⟨?_,rfl,hget⟩) ?_
  · simp;omega
  · rintro e a' w' ⟨ρ',hf',hQ⟩;have fin:(∀tmps:Array AcJ,(∀t,tmps.getD t undef=ρ' t)→∃v,(results fn tmps).run P w' = .ok v w' ∧R (.returned v) w')→a'.defers= []∧∃v,(results fn a'.tmps).run P w' = .ok v w' ∧R (.returned v) w' :=
      fun h=>⟨hf'.defers,h a'.tmps hf'.get⟩
    cases e with
    | normal=>exact fin hQ
    | ret=>exact fin hQ
    | panic ch=>exact⟨hf'.defers,hQ⟩
    | exit _=>exact hQ.elim
    | goto _=>exact hQ.elim
    | outgrown=>exact hQ.elim
theorem CQ{fn:AfB}{R:Afa→AcK→Prop}(rs:List ResultVar)(hrs:fn.results=rs.toArray)(vs:List AcJ)(v:AcJ)(hv:G9 vs=v)(h:Gh P ρ w rs vs)(hR:R (.returned v) w):CF P fn R .ret ρ w:=
  fun _ ht=>⟨_,Hw hrs ht h,by rw[hv];exact hR⟩
theorem L1{fn:AfB}{R:Afa→AcK→Prop}(rs:List ResultVar)(hrs:fn.results=rs.toArray)(vs:List AcJ)(v:AcJ)(hv:G9 vs=v)(h:Gh P ρ w rs vs)(hR:R (.returned v) w):CF P fn R .normal ρ w:=
  fun _ ht=>⟨_,Hw hrs ht h,by rw[hv];exact hR⟩
theorem Au{fn:AfB}{R:Afa→AcK→Prop}{ch:List PanicEntry}(h:R (.panicked ch) w):CF P fn R (.panic ch) ρ w:=h
end
theorem DG{G:Bool}{v x:AcJ}(hx:x=cond G v undef)(h:G=true):x=v:=by rw[hx,h];rfl
theorem KE{a:Bool}(h:a=false):(!a)=true:=by rw[h];rfl
theorem gB(a:Bool):((!a)=true)=(a=false):=propext (by cases a <;> simp)
theorem gE(p:Prop)[Decidable p]:(decide p=false)=¬p:=propext decide_eq_false_iff_not
theorem gT{x:AcJ}{c:Bool}(h:x = .bool c):c=true↔x = .bool true:=by
  subst h;exact⟨fun h=>by rw[h],fun h=>by injection h⟩
theorem gF{x:AcJ}{c:Bool}(h:x = .bool c):(!c)=true↔x = .bool false:=by
  subst h;cases c <;> simp
theorem Qn{o:Adb}{ops:Array Adb}{T:Array AcJ}{g d:Nat}{want:Bool}(hgd:o.guard=some (g,want))(hg:(ops[g]?).bind (·.dst)=some d)(h:T.getD d undef ≠ .bool want):Ad8 o (yielded ops T)=false:=by
  simp only[Ad8,hgd,yielded,hg];rw[Ady]at h;cases hx:T[d]? with
  | none=>simp[hx]
  | some x=>
    rw[hx]at h;cases x <;> simp[hx]
    rename_i b
    intro hb;exact h (by simp[hb])
section
variable {P : Adg} {n : Nat} {Q : BE} {ρ : Ad} {w : AcK} {K : AcJ → AcK → Prop} {d : Option Tmp} {ty : AcR} {pos : String} {af : Array AdL} {gd : Option (Nat × Bool)}
theorem Yk.mono{K' :AcJ→AcK→Prop}{r:AhI Next}(h:Yk P K r)(hk:∀v w,K v w→K' v w):Yk P K' r:=by
  match r,h with
  | .ok (.value v) w,h=>exact hk _ _ h
  | .ok .skip w,h=>exact hk _ _ h
  | .ok (.enter f args) w,h=>exact AfS h (fun e w ⟨v,a,h⟩=>⟨v,a,hk _ _ h⟩)
theorem L2{ops:Array Adb}{rest:List Adb}{dst:Option Tmp}{op:Op}{g:Nat}{want:Bool}{t:Tmp}{G:Bool}(R:AcJ→AcK→Prop)(hd:(match dst with | some d=>AeC d n | none=>true)=true)(hg:(ops[g]?).bind (·.dst)=some t)(hG:G=true↔ρ t = .bool want) 
    (h1:G=true→Yk P R ((execOp (Aa ρ) ⟨dst,op,ty,pos,af,some (g,want)⟩).run P w))
    (h2:∀x w',(G=true→R x w')→(G=false→x=undef∧w' =w)→Cf P ops n Q rest (updO ρ dst x) w'):Cf P ops n Q (⟨dst,op,ty,pos,af,some (g,want)⟩ :: rest) ρ w:=by
  cases hb:G with
  | true=>
    refine oY hd hg (hG.1 hb) (Yk.mono (h1 hb) ?_);intro x w' h;exact h2 x w' (fun _=>h) (fun e=>by rw[hb]at e;cases e)
  | false=>
    intro a ha;have hdn:∀t,dst=some t→t<n:=fun t ht=>by subst ht;exact Ac2 hd
    have hw:Ad8 ⟨dst,op,ty,pos,af,some (g,want)⟩ (yielded ops a.tmps)=false:=Qn rfl hg (fun e=>by
      have:=hG.2 ((ha.get t).symm.trans e);rw[hb]at this;cases this)
    refine wpList_step fun K hK=> ?_;rw[if_neg (by rw[hw];simp)];exact hK _ _ (h2 undef w (fun e=>by rw[hb]at e;cases e) (fun _=>⟨rfl,rfl⟩) _ (ha.put dst hdn undef))
theorem BB{ops:Array Adb}{rest:List Adb}{dst:Option Tmp}{op:Op}{g:Nat}{want:Bool}{t:Tmp}{G:Bool}(v:AcJ)(hd:(match dst with | some d=>AeC d n | none=>true)=true)(hg:(ops[g]?).bind (·.dst)=some t)(hG:G=true↔ρ t = .bool want) 
    (h1:G=true→Yk P (fun x w' =>x=v∧w' =w) ((execOp (Aa ρ) ⟨dst,op,ty,pos,af,some (g,want)⟩).run P w))
    (h2:Cf P ops n Q rest (updO ρ dst (cond G v undef)) w):Cf P ops n Q (⟨dst,op,ty,pos,af,some (g,want)⟩ :: rest) ρ w:=by
  refine L2 _ hd hg hG h1 fun x w' k1 k2=> ?_;cases hb:G with
  | true=>obtain⟨rfl,rfl⟩:=k1 hb;rw[hb]at h2;exact h2
  | false=>obtain⟨rfl,rfl⟩:=k2 hb;rw[hb]at h2;exact h2
theorem RZ{ops:Array Adb}{rest:List Adb}{dst:Option Tmp}{op:Op}{g:Nat}{want:Bool}{t:Tmp}{G:Bool}(R:AcJ→Prop)(hd:(match dst with | some d=>AeC d n | none=>true)=true)(hg:(ops[g]?).bind (·.dst)=some t)(hG:G=true↔ρ t = .bool want) 
    (h1:G=true→Yk P (fun x w' =>R x∧w' =w) ((execOp (Aa ρ) ⟨dst,op,ty,pos,af,some (g,want)⟩).run P w))
    (h2:∀x,(G=true→R x)→Cf P ops n Q rest (updO ρ dst x) w):Cf P ops n Q (⟨dst,op,ty,pos,af,some (g,want)⟩ :: rest) ρ w:=by
  refine L2 _ hd hg hG h1 fun x w' k1 k2=> ?_;have e:w' =w:=by
    cases hb:G with
    | true=>exact(k1 hb).2
    | false=>exact(k2 hb).2
  subst e;exact h2 x (fun h=>(k1 h).1)
theorem AbI{c x y:AcW}{a b:Bool}(hc:Aa ρ c = .bool a)(hx:a=true→Aa ρ x = .bool b)(hy:Aa ρ y = .bool false)(hk:K (.bool (a&&b)) w):Yk P K ((execOp (Aa ρ) ⟨d, .pick c x y,ty,pos,af,gd⟩).run P w):=by
  cases a with
  | true=>exact ZE hc (hx rfl) hk
  | false=>exact ZH hc hy hk
theorem AbX{c x y:AcW}{a b:Bool}(hc:Aa ρ c = .bool a)(hx:Aa ρ x = .bool true)(hy:a=false→Aa ρ y = .bool b)(hk:K (.bool (a||b)) w):Yk P K ((execOp (Aa ρ) ⟨d, .pick c x y,ty,pos,af,gd⟩).run P w):=by
  cases a with
  | true=>exact ZE hc hx hk
  | false=>exact ZH hc (hy rfl) hk
theorem Abw{c x y:AcW}{a b:Bool}(hc:Aa ρ c = .bool a)(hx:a=true→Aa ρ x = .bool b)(hy:Aa ρ y = .bool false)(hk:∀r,r=(a&&b)→K (.bool r) w):Yk P K ((execOp (Aa ρ) ⟨d, .pick c x y,ty,pos,af,gd⟩).run P w):=AbI hc hx hy (hk _ rfl)
theorem Aax{c x y:AcW}{a b:Bool}(hc:Aa ρ c = .bool a)(hx:Aa ρ x = .bool true)(hy:a=false→Aa ρ y = .bool b)(hk:∀r,r=(a||b)→K (.bool r) w):Yk P K ((execOp (Aa ρ) ⟨d, .pick c x y,ty,pos,af,gd⟩).run P w):=AbX hc hx hy (hk _ rfl)
variable {l : List Adb} {Φ : Nat → Bm}
end
theorem Aa2{P:Adg}{K K' :AcJ→AcK→Prop}{J J' :List PanicEntry→AcK→Prop}{r:AhI Next}(h:Yp P K J r)(hm:∀v w,K v w→K' v w)(hj:∀c w,J c w→J' c w):Yp P K' J' r:=by
  match r,h with
  | .ok (.value v) w',h=>exact hm _ _ h
  | .ok .skip w',h=>exact hm _ _ h
  | .halt (.panic v) w',h=>exact hj _ _ h
  | .ok (.enter f args) w',h=>
    refine AfS h fun e w'' hx=> ?_
    match e,hx with
    | .returned v,hx=>exact hm _ _ hx
    | .panicked ch,hx=>exact hj _ _ hx
def Na(l:List Adb)(k:Nat):Bool:=(AdN l.length).all fun i=>AeC i k||(AdN i).all fun m=>((AL l []).getD i 0).testBit m
theorem R0{l:List Adb}{k:Nat}(h:Na l k=true):∀i,k≤i→i<l.length→∀m,m<i→((AL l []).getD i 0).testBit m=true:=fun i hi hl m hm=>by
  unfold Na at h;have h1:=Adv.1 h i (by simpa using hl);rcases AeF _ _▸h1 with h2 | h2
  · have:=Ac2 h2;omega
  · exact Adv.1 h2 m (by simpa using hm)
section
variable {P : Adg} {l : List Adb} {kill : Nat → List Nat} {C : Nat → AcK → Prop} {R : Nat → AcK → AcK → Prop} {Φ : Nat → Bm} {a0 : Act}
def StepsFC(P:Adg)(l:List Adb)(L:Nat)(C:Nat→AcK→Prop)(R:Nat→AcK→AcK→Prop)(Φ:Nat→Bm)(ρ:Ad):Nat→List Adb→Prop
  | _,[]=>True
  | n,o :: r=>(bif AgI L n then True else EL P l C R Φ ρ n o)∧StepsFC P l L C R Φ ρ (n+1) r
theorem Bv{L n:Nat}{ρ:Ad}{o:Adb}(h:EL P l C R Φ ρ n o):bif AgI L n then True else EL P l C R Φ ρ n o:=by
  cases AgI L n
  · exact h
  · trivial
theorem StepsFC.get{L:Nat}{ρ:Ad}:∀(r:List Adb) (n:Nat),StepsFC P l L C R Φ ρ n r→∀k o,r[k]? =some o→n+k<L→EL P l C R Φ ρ (n+k) o
  | [],_,_,k,o,h,_=>by simp at h
  | o' :: r,n,hs,0,o,h,hne=>by
    simp only[Afe,Aey]at h;subst h;have h1:=hs.1;rw[show AgI L n=false by rw[←AgU];exact fun x=>by have:=Ac2 x;omega]at h1;exact h1
  | o' :: r,n,hs,k+1,o,h,hne=>by
    rw[Aem]at h;have:=StepsFC.get r (n+1) hs.2 k o h (by omega)
    rwa [show n+1+k=n+(k+1) by omega]at this
theorem Nq{z:Nat}(g:GY l z){k:Nat}(ht:∀i,k≤i→i<l.length→∀m,m<i→((AL l []).getD i 0).testBit m=true){Q:Afj→Act→AcK→Prop}:
    ∀(fuel m:Nat) (listed:Array Bool) (a:Act) (w:AcK),listed.size=l.length→(∀i,On listed i↔i<m)→k≤m→m≤l.length→l.length≤m+fuel→wpList P l.toArray Q (l.drop m) a w→wpAny P .any l.toArray Q fuel listed a w:=by
  have noReady:∀(m:Nat) (listed:Array Bool),listed.size=l.length→(∀i,On listed i↔i<m)→l.length≤m→AdV .any l.toArray listed= []:=by
    intro m listed hsz hon hm;cases hr:AdV .any l.toArray listed with
    | nil=>rfl
    | cons x xs=>
      exfalso;have hmem:x∈AdV .any l.toArray listed:=by rw[hr];simp
      obtain⟨h1,o,ho,_⟩:=mem_ready.1 hmem;have hx:x<l.length:=by simpa using (Ade.1 ho).1
      have h2:=(hon x).2 (by omega);have hx' :x<listed.size:=h2.lt;unfold On at h2;simp[hx']at h1 h2;rw[h1]at h2;cases h2
  intro fuel
  induction fuel with
  | zero=>
    intro m listed a w hsz hon hk hm hf hw;rw[AdR (by omega)]at hw;exact⟨noReady m listed hsz hon (by omega),hw⟩
  | succ fuel ih=>
    intro m listed a w hsz hon hk hm hf hw;by_cases hml:m=l.length
    · have hr:=noReady m listed hsz hon (by omega);rw[AdR (by omega)]at hw;exact⟨fun _=>hw,fun i hi=>by rw[hr]at hi;cases hi⟩
    · have hlt:m<l.length:=by omega
      have hoff:¬On listed m:=fun x=>by have:=(hon m).1 x;omega
      have hI:Inv l (fun _=> []) (fun _ _=>True) (fun _ _=>True) (fun _ _ _=>True) a listed a w:=
        ⟨hsz,fun i o ho hi e he hb=>(hon _).2 (by have:=g.back i o ho e he hb;have:=(hon i).1 hi;omega),rfl,rfl,fun _ _ _=>trivial,trivial,fun _ _=>rfl,fun _ _ _ _ _ _ _ _=>trivial⟩
      refine⟨fun hr=> ?_,fun i hi=> ?_⟩
      · exfalso;have ho:l[m]? =some l[m]:=AcS hlt;have:m∈AdV .any l.toArray listed:=by
          refine mem_ready.2 ⟨?_,l[m],by rw[AdG];exact ho,fun e he hb=>(hon _).2 (g.back m _ ho e he hb)⟩;have hm' :m<listed.size:=by omega
          unfold On at hoff;simp[hm']at hoff ⊢;exact hoff
        rw[hr]at this;cases this
      · obtain⟨h1,o,ho,hall⟩:=mem_ready.1 hi;have ho' :l[i]? =some o:=by simpa using ho
        have hil:i<l.length:=(Adc.1 ho').1;have hno:¬On listed i:=fun x=>by
          have hx:i<listed.size:=by omega
          unfold On at x;simp[hx]at h1 x;rw[h1]at x;cases x
        have him:i=m:=by
          by_cases h2:i<m
          · exact absurd ((hon i).2 h2) hno
          · by_cases h3:i=m
            · exact h3
            · exact absurd (hI.maskReady ho' (fun e he hb=>hall e he hb) (ht i (by omega) hil m (by omega))) hoff
        subst him;rw[Ad3 hlt]at hw;obtain rfl:l[i]=o:=by rw[AcS hlt]at ho';exact Adu ho'
        have nxt:∀a' w',wpList P l.toArray Q (l.drop (i+1)) a' w' →wpAny P .any l.toArray Q fuel (listed.setIfInBounds i true) a' w' :=fun a' w' hw' =>
          ih (i+1) _ a' w' (by simpa using hsz) (fun j=>by rw[on_set (by omega),hon j];omega) (by omega) (by omega) (by omega) hw'
        unfold wpOp;simp only[AdG,ho'];unfold wpList at hw;split at hw
        · rename_i hwt
          rw[if_pos hwt];exact hw.imp (fun h=>Oper.wp_mono nxt h) (fun h=>h)
        · rename_i hwt
          rw[if_neg hwt];exact nxt _ _ hw
theorem WJ{E:Array Bool→AcK→Prop}(hE:∀n listed w w',n<l.length→listed.size=l.length→¬On listed n→(∀i k,On listed i∨i=n→((AL l []).getD i 0).testBit k=true→On listed k)→E listed w→R n w w' →E (listed.setIfInBounds n true) w')(g:GY l a0.tmps.size)(hkl:CJ l kill=true){k:Nat}(ht:∀i,k≤i→i<l.length→∀m,m<i→((AL l []).getD i 0).testBit m=true)(hk:k≤l.length) 
    (hC:∀n m,n<l.length→m<l.length→n≠m→((AL l []).getD n 0).testBit m=false→∀w w',C m w→R n w w' →C m w') (hΦ:∀n i,n<l.length→i<l.length→i∉kill n→i≠n→((AL l []).getD i 0).testBit n=false→∀v w w',Φ i v w→R n w w' →Φ i v w') (hRr:∀n o w,l[n]? =some o→o.guard.isSome=true→R n w w) (hs:∀i o,l[i]? =some o→i<k→Gf P l C R Φ a0.tmps i o) {Q:Afj→Act→AcK→Prop}
    (hQ:∀listed a' w',(∀i,On listed i↔i<k)→Inv l kill C E Φ a0 listed a' w' →wpList P l.toArray Q (l.drop k) a' w'):
    ∀(fuel:Nat) (listed:Array Bool) (a:Act) (w:AcK),(listed.toList.filter (!·)).length=fuel→(∀i,On listed i→i<k)→Inv l kill C E Φ a0 listed a w→wpAny P .any l.toArray Q fuel listed a w:=by
  intro fuel
  induction fuel with
  | zero=>
    intro listed a w hf hoff h;have full:∀i,i<l.length→On listed i:=fun i hi=>by
      have:=E1 _ hf i (by rw[Aew,h.size];omega);unfold On;simp at this;simp[this]
    have hkl' :k=l.length:=by
      by_cases e:k=l.length
      · exact e
      · have:=hoff k (full k (by omega));omega
    exact Nq g ht 0 k listed a w h.size (fun i=>⟨hoff i,fun hi=>full i (by omega)⟩) (AcP _) hk (by omega) (hQ listed a w (fun i=>⟨hoff i,fun hi=>full i (by omega)⟩) h)
  | succ fuel ih=>
    intro listed a w hf hoff h;by_cases hfull:∀i,i<k→On listed i
    · have hon:∀i,On listed i↔i<k:=fun i=>⟨hoff i,hfull i⟩;refine Nq g ht (fuel+1) k listed a w h.size hon (AcP _) hk ?_ (hQ listed a w hon h);have e:=Afb k listed.toList;rw[←e,AfX,AcQ]at hf;have c:(listed.toList.drop k).filter (!·)=listed.toList.drop k:=Agq.2 fun b hb=>by
        obtain⟨j,hj,rfl⟩:=Aeh hb;rw[List.getElem_drop];have hno:¬On listed (k+j):=fun x=>by have:=hoff _ x;omega
        rw[Ac5]at hj;have hlt:k+j<listed.size:=by rw[←Aew];omega
        unfold On at hno;simp[hlt]at hno;simp[hno]
      rw[c,Ac5]at hf;have hz:listed.toList.length=l.length:=by rw[Aew];exact h.size
      omega
    · have hlow:∃j,j<k∧¬On listed j:=by
        refine AdW fun hn=>hfull fun i hi=>AdW fun hx=>hn ⟨i,hi,hx⟩
      obtain⟨j0,hj0,hoff0⟩:=hlow;refine⟨fun hr=> ?_,fun i hi=> ?_⟩
      · exfalso;have full:∀i,i<l.length→On listed i:=by
          intro i
          induction i using Ae0 with
          | _ i ih2=>
            intro hi;refine AdW fun hno=> ?_;have ho:l[i]? =some l[i]:=AcS hi;have:i∈AdV .any l.toArray listed:=by
              refine mem_ready.2 ⟨?_,l[i],by rw[AdG];exact ho,fun e he hb=> ?_⟩
              · have hi' :i<listed.size:=by rw[h.size];exact hi
                unfold On at hno;simp[hi']at hno ⊢;exact hno
              · have hlt:=g.back i _ ho e he hb;exact ih2 e.on hlt (by omega)
            rw[hr]at this;cases this
        exact hoff0 (full j0 (by omega))
      · obtain⟨h1,o,ho,hall0⟩:=mem_ready.1 hi;have ho' :l[i]? =some o:=by simpa using ho
        have hilt:i<l.length:=(Adc.1 ho').1;have hil:i<listed.size:=by rw[h.size];exact hilt
        have hno:¬On listed i:=by
          unfold On;simp[hil]at h1 ⊢;exact h1
        have hall:∀e∈o.after,Ad1 .any e=true→On listed e.on:=fun e he hb=>hall0 e he hb;have hik:i<k:=by
          by_cases h2:i<k
          · exact h2
          · exact absurd (h.maskReady ho' hall (ht i (by omega) hilt j0 (by omega))) hoff0
        have hcnt:((listed.setIfInBounds i true).toList.filter (!·)).length=fuel:=by
          rw[Ae1];have:=EY listed.toList i (by
            simp[hil]at h1;simp[hil,h1])
          omega
        refine h.step g hkl hC hE hΦ hRr ho' hno hall (hs i o ho' hik) fun a' w' h' =>ih _ _ _ hcnt (fun j hx=> ?_) h';rcases(on_set hil).1 hx with rfl | h3
        · exact hik
        · exact hoff j h3
end
section
variable {P : Adg} {n : Nat} {ρ : Ad} {w : AcK} {Q : BE}
theorem M0{l r:List Adb}(k0:Nat)(ks:Nat→List Nat)(C:Nat→AcK→Prop)(R:Nat→AcK→AcK→Prop)(E:Array Bool→AcK→Prop)(Φs:List Bm){id:Nat}(hm:P.follows .mixedOrders=true)(ds:List Tmp)(hg:Cw l n=true)(hn:Na l k0=true)(c:AgI Φs.length k0=true)(hkl:CJ l ks=true)(hds:slotsW l=ds)(hr:(l.drop k0)=r) 
    (hC:∀n m,n<l.length→m<l.length→n≠m→((AL l []).getD n 0).testBit m=false→∀w w',C m w→R n w w' →C m w')
    (hΦ:∀n i,n<l.length→i<l.length→i∉ks n→i≠n→((AL l []).getD i 0).testBit n=false→∀v w w',AQ Φs i v w→R n w w' →AQ Φs i v w')
    (hE:∀n listed w w',n<l.length→listed.size=l.length→¬On listed n→(∀i k,On listed i∨i=n→((AL l []).getD i 0).testBit k=true→On listed k)→E listed w→R n w w' →E (listed.setIfInBounds n true) w') (f:E (Aeq l.toArray.size false) { w with drawn:=w.drawn+1 })
    (hRr:∀n o w,l[n]? =some o→o.guard.isSome=true→R n w w) (h0:∀n,n<l.length→C n { w with drawn:=w.drawn+1 })
    (hs:StepsFC P l k0 C R (AQ Φs) ρ 0 l)
    (hlt:AeC k0 l.length=true) (hQ:∀(ρ' :Ad) w1 listed,(∀i,On listed i↔i<k0)→E listed w1→C k0 w1→EndF ds ρ ρ' →Bd l ks (AQ Φs) ρ' w1 ds→Cf P l.toArray n Q r ρ' w1):B1 P n (.region id l.toArray true) Q ρ w:=by
  intro a ha;obtain⟨T,df⟩:=a;have hz:T.size=n:=ha.size;subst hz;have b:k0<l.length:=Ac2 hlt;have g:=Gb hg;refine wp_region_any hm (WJ hE (a0:= { tmps:=T,defers:=df }) (C:=C) (R:=R) (Φ:=AQ Φs) g hkl (R0 hn) (AiT b) hC hΦ hRr (fun i o ho hi=> ?_) (fun listed a' w' hon h=> ?_) _ _ _ _ (by simp) ?_ ?_)
  · have hst:=StepsFC.get l 0 hs i o ho (by omega);rw[Ad4]at hst;have h2:=StepsF.ok (P:=P) (l:=l) (C:=C) (R:=R) (Φ:=AQ Φs) (T:=T) ha.get [o] i ⟨hst,trivial⟩;exact h2.1
  · -- what the slots hold
    have hw:∀d k,Dc l d l.length=some k→(AdN l.length).all (fun n=> !(ks n).contains k)=true→AQ Φs k (a'.tmps.getD d undef) w' :=fun d k hk hall=>by
      obtain⟨h1,⟨o,ho,hd'⟩,h3⟩:=DV _ hk;by_cases hkL:k0≤k
      · have e:AQ Φs k=fun _ _=>True:=by
          have:=Ac2 c;unfold AQ;rw[AcO,AdY (by omega)];rfl
        rw[e];trivial
      refine h.new d k o ho hd' ((hon k).2 (by omega)) (fun k' o' hkk ho' hd'' _=>h3 k' o' hkk (Adc.1 ho').1 ho' hd'') (fun n hn hkn=> ?_);have hnl:n<l.length:=by have:=hn.lt;rw[h.size]at this;exact this
      have:=Adv.1 hall n (by simpa using hnl);simp at this;exact this hkn
    have hget:∀t,a'.tmps.getD t undef=if t∈ds then a'.tmps.getD t undef else ρ t:=fun t=>by
      by_cases hn:t∈ds
      · rw[if_pos hn]
      · rw[if_neg hn,←ha.get];exact h.old t fun k o ho hd _=>hn (by
          rw[←hds];unfold slotsW;rw[AfR,AeI];exact⟨o,AdX ho,hd⟩)
    have hcl:=h.cls k0 b (fun x=>by have:=(hon k0).1 x;omega);have hend:EndF ds ρ (fun t=>a'.tmps.getD t undef):=⟨fun t ht=>by rw[hget t,if_neg (by simpa using ht)]⟩;have:=hQ (fun t=>a'.tmps.getD t undef) w' listed hon h.ecl hcl hend (ED hw ds);rw[hr];exact this a' ⟨h.tmps,h.defers.trans ha.defers,fun t=>rfl⟩
  · intro i h;unfold On at h;rw[Ady,Aea]at h;split at h <;> simp at h
  · have hno:∀i,¬On (Aeq l.toArray.size false) i:=fun i h=>by
      unfold On at h;rw[Ady,Aea]at h;split at h <;> simp at h
    exact⟨Agd,fun i o _ h=>absurd h (hno i),rfl,rfl,fun n hn _=>h0 n hn,f,fun t _=>rfl,fun t k o _ _ h=>absurd h (hno k)⟩
end
def FW(l:List Adb)(i:Nat):Option Tmp:=l[i]?.bind (·.dst)
def Wo:List Tmp→Bool
  | []=>true
  | a :: r=> !r.contains a&&Wo r
theorem C7{ρ:Ad}{d:Tmp}{v:AcJ}:updO ρ (some d) v=Nn ρ d v:=rfl
theorem Ix{ρ:Ad}{d:Tmp}{v:AcJ}:Nn ρ d v d=v:=by simp[Nn]
theorem Gi{ρ:Ad}{d t:Tmp}{v:AcJ}(h:t≠d):Nn ρ d v t=ρ t:=by
  have:Ae9 t d=false:=by rw[←AgU,Nat.beq_eq];exact h
  simp[Nn,this]
theorem FX{ρ σ:Ad}{o:Adb}{ops:Array Adb}(hs:∀cs b,o.op ≠ .select cs b)(h:∀t∈o.looksAt ops,σ t=ρ t):execOp (Aa σ) o=execOp (Aa ρ) o:=
  execOp_congr o hs fun x hx=>by
    cases x with
    | tmp t=>exact h t (Afv _ (AeI.2 ⟨.tmp t,by simpa using hx,rfl⟩))
    | _=>rfl
section
variable {P : Adg} {n : Nat} {ρ : Ad} {w : AcK} {Q : BE} {l : List Adb} {fs : List (Nat × Tmp × AcJ)} {cs : List Nat} {I : AcK → Prop}
theorem Nr{a:Act}{o:Adb}{K:Act→AcK→Prop}{Q' :Afj→Act→AcK→Prop}(h:Yk P (fun v w' =>K (a.put o.dst v) w') ((execOp a.eval o).run P w)):o.wp P a w K Q' :=by
  unfold Afn AfQ
  revert h
  generalize (execOp a.eval o).run P w=r
  intro h
  match r,h with
  | .ok (.value v) w',h=>exact h
  | .ok .skip w',h=>exact h
  | .ok (.enter f args) w',h=>
    refine AfS h ?_;rintro e w'' ⟨v,rfl,hk⟩;exact hk
theorem M1{a:Act}{o:Adb}{K:Act→AcK→Prop}{Q' :Afj→Act→AcK→Prop}{J:List PanicEntry→AcK→Prop}(h:Yp P (fun v w' =>K (a.put o.dst v) w') J ((execOp a.eval o).run P w))(hJ:∀ch w',J ch w' →Q' (.panic ch) a w'):o.wp P a w K Q' :=by
  unfold Afn AfQ
  revert h
  generalize (execOp a.eval o).run P w=r
  intro h
  match r,h with
  | .ok (.value v) w',h=>exact h
  | .ok .skip w',h=>exact h
  | .halt (.panic v) w',h=>exact hJ _ _ h
  | .ok (.enter f args) w',h=>
    refine AfS h ?_;intro e w'' hx
    match e,hx with
    | .returned v,hx=>exact hx
    | .panicked ch,hx=>exact hJ _ _ hx
theorem L3:∀ {l:List Tmp},Wo l=true→l.Nodup
  | [],_=>List.nodup_nil
  | a :: r,h=>by
    unfold Wo at h;rw[AdT]at h;refine AeQ.2 ⟨fun hm=> ?_,L3 h.2⟩;have:=h.1;rw[AeR.2 hm]at this;cases this
end
def looksL(l:List Adb)(j:Nat):List Tmp:=match l[j]? with
  | some q=>q.looksAt l.toArray
  | none=> []
def DR(l:List Adb)(j:Nat):Bool:=match l[j]? with
  | some q=>q.guard.isSome
  | none=>true
def E6(l:List Adb)(pf:List Nat)(j:Nat):Bool:=pf.contains j||(match l[j]? with
  | some q=>(match q.op with | .move _ | .assign _=>true | _=>false)
  | none=>false)
def Qo(l:List Adb)(m:List Nat)(cs pf fl pre:List Nat)(i:Nat):Bool:=match l[i]? with
  | none=>false
  | some o=>
    (match o.op with | .select .. =>false | _=>true) &&
    ((AdN l.length).all (fun j=> !(m.getD i 0).testBit j||pre.contains j) &&
    (pre.all (fun j=> !cs.contains j||(m.getD i 0).testBit j) &&
    ((!cs.contains i||pre.all fun j=>cs.contains j||(E6 l pf j||(fl.contains j||(m.getD i 0).testBit j))) &&
    ((pre.all fun j=>(cs.contains j&& !DR l j)||((cs.contains i&&(o.guard.isNone&&(m.getD i 0).testBit j))||(match o.dst with | some d=> !(looksL l j).contains d&&FW l j != some d | none=>true))) &&
    ((cs.contains i&&o.guard.isNone)||(match o.dst with | some d=> !(o.looksAt l.toArray).contains d | none=>cs.contains i))))))
def KF(l:List Adb)(m:List Nat)(cs pf fl:List Nat):List Nat→List Nat→Bool
  | _,[]=>true
  | pre,i :: r=>Qo l m cs pf fl pre i&&KF l m cs pf fl (i :: pre) r
def Hy(l:List Adb)(cs pf fl ord:List Nat):Bool:=Wo ord&&((AdN l.length).all (fun i=>ord.contains i)&&KF l (AL l []) cs pf fl [] ord)
def Qp(l:List Adb)(fl r:List Nat)(i:Nat):Bool:=fl.all fun j=>r.contains j||((AL l []).getD i 0).testBit j
def LA(l:List Adb)(pf fl:List Nat)(I:AcK→Prop)(w:AcK)(i:Nat)(w' :AcK):Prop:=E6 l pf i=true∨(if i∈fl then I w' else w' =w)
def DZ(P:Adg)(l:List Adb)(cs pf fl:List Nat)(J:List PanicEntry→AcK→Prop)(K:Ad→AcK→Prop):List Nat→(AcK→Prop)→Ad→AcK→Prop
  | [],_,ρ,w=>K ρ w
  | i :: r,I,ρ,w=>match l[i]? with
    | none=>False
    | some o=>if Bj l o ρ=false then DZ P l cs pf fl J K r I (updO ρ o.dst undef) w
      else if i∈cs then Yp P (fun v w' =>∃I' :AcK→Prop,I' w' ∧((∀x,I' x→I x)∨Qp l fl r i=true)∧DZ P l cs pf fl J K r I' (updO ρ o.dst v) w') J ((execOp (Aa ρ) o).run P w)
      else ∃v,(∀w',LA l pf fl I w i w' →Yk P (fun x w'' =>x=v∧w'' =w') ((execOp (Aa ρ) o).run P w'))∧DZ P l cs pf fl J K r I (updO ρ o.dst v) w
structure MixAt (l : List Adb) (cs pf fl u : List Nat) (i : Nat) (o : Adb) : Prop where
  sel:∀cs b,o.op ≠ .select cs b
  lin:∀j,j<l.length→((AL l []).getD i 0).testBit j=true→j∈u
  chain:∀j∈u,j∈cs→((AL l []).getD i 0).testBit j=true
  loc:i∈cs→∀j∈u,j∉cs→E6 l pf j=true∨j∈fl∨((AL l []).getD i 0).testBit j=true
  sep:∀j∈u,j∉cs∨DR l j=true→i∉cs∨DR l i=true∨((AL l []).getD i 0).testBit j=false→∀d,o.dst=some d→d∉looksL l j∧FW l j≠some d
  own:i∉cs∨o.guard.isSome=true→∀d,o.dst=some d→d∉o.looksAt l.toArray
  has:i∉cs→∃d,o.dst=some d
theorem WK{l:List Adb}{cs pf fl u:List Nat}{i:Nat}(h:Qo l (AL l []) cs pf fl u i=true):∃o,l[i]? =some o∧MixAt l cs pf fl u i o:=by
  unfold Qo at h;cases ho:l[i]? with
  | none=>rw[ho]at h;cases h
  | some o=>
    rw[ho]at h;simp only[AdT]at h;obtain⟨h1,h2,h3,h4,h5,h6⟩:=h;refine⟨o,rfl,⟨fun c b e=> ?_,fun j hj hb=> ?_,fun j hj hc=> ?_,fun hi j hj hc=> ?_,fun j hj hc hx d hd=> ?_,fun hi d hd=> ?_,fun hi=> ?_⟩⟩
    · rw[e]at h1;cases h1
    · have:=Adv.1 h2 j (by simpa using hj);rw[hb]at this
      simpa using this
    · have:=Adv.1 h3 j hj;rw[AeR.2 hc]at this
      simpa using this
    · rw[AeR.2 hi]at h4;have h4:∀x,x∈u→x∈cs∨E6 l pf x=true∨x∈fl∨((AL l [])[i]?.getD 0).testBit x=true:=by simpa using h4
      have:=h4 j hj
      simpa [hc] using this
    · have:=Adv.1 h5 j hj;rw[hd]at this;have hf:(cs.contains j&& !DR l j)=false:=by
        rcases hc with hc | hc
        · have:cs.contains j=false:=by simpa using hc
          rw[this];rfl
        · rw[hc];simp
      have hf2:(cs.contains i&&(o.guard.isNone&&((AL l []).getD i 0).testBit j))=false:=by
        rcases hx with hx | hx | hx
        · have:cs.contains i=false:=by simpa using hx
          rw[this];rfl
        · unfold DR at hx;rw[ho]at hx;cases hg:o.guard with
          | none=>simp only[hg]at hx;cases hx
          | some g=>simp
        · rw[hx];simp
      rw[hf,hf2]at this
      simpa using this
    · have hf:(cs.contains i&&o.guard.isNone)=false:=by
        rcases hi with hi | hi
        · have:cs.contains i=false:=by simpa using hi
          rw[this];rfl
        · cases hg:o.guard with
          | none=>rw[hg]at hi;cases hi
          | some g=>simp
      rw[hf,hd]at h6
      simpa using h6
    · have hf:cs.contains i=false:=by simpa using hi
      rw[hf]at h6;cases hd:o.dst with
      | none=>rw[hd]at h6;simp at h6
      | some d=>exact⟨d,rfl⟩
theorem L4{l:List Adb}{m cs pf fl:List Nat}:∀ {pre:List Nat} (u:List Nat) {i:Nat} {v:List Nat},KF l m cs pf fl pre (u++i :: v)=true→Qo l m cs pf fl (u.reverse++pre) i=true
  | pre,[],i,v,h=>by
    unfold KF at h;rw[AdS,AdT]at h;exact h.1
  | pre,x :: u,i,v,h=>by
    rw[AdP]at h;unfold KF at h;rw[AdT]at h;have:=L4 u h.2
    simpa using this
theorem MixAt.perm{l:List Adb}{cs pf fl u v:List Nat}{i:Nat}{o:Adb}(e:∀x,x∈u↔x∈v)(h:MixAt l cs pf fl u i o):MixAt l cs pf fl v i o:=
  ⟨h.sel,fun j a b=>(e j).1 (h.lin j a b),fun j a=>h.chain j ((e j).2 a),fun a j b=>h.loc a j ((e j).2 b),fun j a=>h.sep j ((e j).2 a),h.own,h.has⟩
theorem KG{l:List Adb}{cs pf fl u v:List Nat}{i:Nat}(h:Hy l cs pf fl (u++i :: v)=true):∃o,l[i]? =some o∧MixAt l cs pf fl u i o:=by
  unfold Hy at h;rw[AdT,AdT]at h;obtain⟨o,ho,k⟩:=WK (L4 u h.2.2);exact⟨o,ho,k.perm (by simp)⟩
theorem EN{l:List Adb}{o:Adb}{ρ σ:Ad}(h:∀t∈o.looksAt l.toArray,σ t=ρ t):Bj l o σ=Bj l o ρ:=by
  unfold Bj;cases hg:o.guard with
  | none=>rfl
  | some g=>
    obtain⟨g,want⟩:=g;simp only;cases hd:(l[g]?).bind (·.dst)with
    | none=>rfl
    | some t=>
      simp only;rw[h t (by
        unfold AiP;refine Aex _ ?_;rw[hg];simp[hd])]
theorem Uk{a b:List Nat}{x:Nat}(h:(a++b).Nodup)(ha:x∈a)(hb:x∈b):False:=(AeY.1 h).2.2 x ha x hb rfl
theorem OW{a b c d:List Nat}{x:Nat}(h:(a++x :: b).Nodup)(e:a++x :: b=c++x :: d):a=c:=by
  induction a generalizing c with
  | nil=>
    cases c with
    | nil=>rfl
    | cons y c=>
      simp only[AdS,AdP,Ag3]at e;obtain⟨rfl,e⟩:=e;rw[AdS]at h;exact absurd (by rw[e];simp) (AeQ.1 h).1
  | cons y a ih=>
    cases c with
    | nil=>
      simp only[AdS,AdP,Ag3]at e;obtain⟨rfl,e⟩:=e;rw[AdP]at h;exact absurd (by simp) (AeQ.1 h).1
    | cons z c=>
      simp only[AdP,Ag3]at e;obtain⟨rfl,e⟩:=e;rw[AdP]at h;rw[ih (AeQ.1 h).2 e]
section
variable {P : Adg} {n : Nat} {ρ : Ad} {w : AcK} {Q : BE} {l : List Adb} {cs pf fl ord : List Nat} {I : AcK → Prop} {J : List PanicEntry → AcK → Prop} {K : Ad → AcK → Prop}
def Pend(P:Adg)(l:List Adb)(cs pf fl:List Nat)(I:AcK→Prop)(ρ:Ad)(w:AcK)(i:Nat):Prop:=
  ∃o,l[i]? =some o∧(i∉cs∨DR l i=true)∧(∀d,o.dst=some d→d∉o.looksAt l.toArray)∧(∀cs b,o.op ≠ .select cs b) ∧
    (Bj l o ρ=false∧(∀d,o.dst=some d→ρ d=undef) ∨
      Bj l o ρ=true∧i∉cs∧∃d,o.dst=some d∧∀w',LA l pf fl I w i w' →Yk P (fun x w'' =>x=ρ d∧w'' =w') ((execOp (Aa ρ) o).run P w'))
theorem Pend.upd{ρ' :Ad}{i:Nat}(h:Pend P l cs pf fl I ρ w i)(hl:∀t∈looksL l i,ρ' t=ρ t)(hd:∀t,FW l i=some t→ρ' t=ρ t):Pend P l cs pf fl I ρ' w i:=by
  obtain⟨o,ho,h1,h2,h3,h4⟩:=h;have hl' :∀t∈o.looksAt l.toArray,ρ' t=ρ t:=fun t ht=>hl t (by unfold looksL;rw[ho];exact ht);have hd' :∀t,o.dst=some t→ρ' t=ρ t:=fun t ht=>hd t (by unfold FW;rw[ho];exact ht);refine⟨o,ho,h1,h2,h3,?_⟩;rw[EN hl'];rcases h4 with ⟨a,b⟩ | ⟨a,b,d,hd0,c⟩
  · exact .inl ⟨a,fun d hd0=>(hd' d hd0).trans (b d hd0)⟩
  · refine .inr ⟨a,b,d,hd0,?_⟩;rw[hd' d hd0,FX h3 hl'];exact c
structure MInv (P : Adg) (l : List Adb) (cs pf fl ord : List Nat) (n : Nat) (J : List PanicEntry → AcK → Prop) (K : Ad → AcK → Prop) (u r : List Nat) (I : AcK → Prop) (ρ : Ad) (listed : Array Bool) (a : Act) (w : AcK) : Prop where
  size:listed.size=l.length
  closed:∀i o,l[i]? =some o→On listed i→∀e∈o.after,Ad1 .any e=true→On listed e.on
  tmps:a.tmps.size=n
  defers:a.defers= []
  split:ord=u++r
  rest:∀i∈r,¬On listed i
  pend:∀i∈u,¬On listed i→Pend P l cs pf fl I ρ w i
  agree:∀t,(∀i∈u,¬On listed i→FW l i≠some t)→a.tmps.getD t undef=ρ t
  holds:I w
  run:DZ P l cs pf fl J K r I ρ w
theorem MInv.place(hb:Hy l cs pf fl ord=true){listed:Array Bool}{a:Act}:∀(r u:List Nat) (ρ:Ad),MInv P l cs pf fl ord n J K u r I ρ listed a w →
    ∃u' r' ρ',MInv P l cs pf fl ord n J K u' r' I ρ' listed a w∧(r' = []∨∃c q o,r' =c :: q∧c∈cs∧l[c]? =some o∧Bj l o ρ' =true)
  | [],u,ρ,h=>⟨u,[],ρ,h, .inl rfl⟩
  | i :: r,u,ρ,h=>by
    obtain⟨o,ho,hm⟩:=KG (h.split▸hb);have hrun:=h.run;unfold DZ at hrun;rw[ho]at hrun;simp only at hrun;have hno:¬On listed i:=h.rest i (by simp);have next:∀(v:AcJ),(i∉cs∨DR l i=true)→(∀d,o.dst=some d→d∉o.looksAt l.toArray)→Pend P l cs pf fl I (updO ρ o.dst v) w i→DZ P l cs pf fl J K r I (updO ρ o.dst v) w→MInv P l cs pf fl ord n J K (u++ [i]) r I (updO ρ o.dst v) listed a w:=fun v hg hown hp hr=>by
      have hne:∀t,o.dst≠some t→updO ρ o.dst v t=ρ t:=fun t ht=>by
        cases hd:o.dst with
        | none=>rfl
        | some d=>rw[C7,Gi (fun e=>ht (by rw[hd,e]))]
      refine⟨h.size,h.closed,h.tmps,h.defers,by rw[h.split];simp,fun j hj=>h.rest j (by simp[hj]),fun j hj hnj=> ?_,fun t ht=> ?_,h.holds,hr⟩
      · rcases Adf.1 hj with hj | hj
        · have hpj:=h.pend j hj hnj;obtain⟨oj,hoj,hcj,-⟩:=hpj;have hg' :i∉cs∨DR l i=true∨((AL l []).getD i 0).testBit j=false:=hg.elim .inl fun x=> .inr (.inl x);refine(h.pend j hj hnj).upd (fun t ht=>hne t fun e=>(hm.sep j hj hcj hg' t e).1 ht) fun t ht=>hne t fun e=>(hm.sep j hj hcj hg' t e).2 ht
        · rw[AcY.1 hj];exact hp
      · have h1:=h.agree t fun j hj=>ht j (by simp[hj]);rw[h1,hne t fun e=>ht i (by simp) hno (by unfold FW;rw[ho];exact e)]
    by_cases hw:Bj l o ρ=false
    · rw[if_pos hw]at hrun;have hgs:o.guard.isSome=true:=by
        cases hg:o.guard with
        | none=>unfold Bj at hw;rw[hg]at hw;cases hw
        | some g=>rfl
      have hgb:DR l i=true:=by unfold DR;rw[ho];exact hgs
      have hown:=hm.own (.inr hgs);refine MInv.place hb r (u++ [i]) _ (next undef (.inr hgb) hown ⟨o,ho, .inr hgb,hown,hm.sel, .inl ⟨?_,fun d hd=>by rw[hd,C7,Ix]⟩⟩ hrun);rw[←hw];refine EN fun t ht=> ?_;cases hd:o.dst with
      | none=>rfl
      | some d=>rw[C7,Gi (fun e=>hown d hd (by rw[←e];exact ht))]
    · rw[if_neg hw]at hrun;have hwt:Bj l o ρ=true:=by simpa using hw
      by_cases hc:i∈cs
      · exact⟨u,i :: r,ρ,h, .inr ⟨i,r,o,rfl,hc,ho,hwt⟩⟩
      · rw[if_neg hc]at hrun;obtain⟨v,hv,hrun⟩:=hrun;have hown:=hm.own (.inl hc);obtain⟨d,hd⟩:=hm.has hc;have hag:∀t∈o.looksAt l.toArray,updO ρ o.dst v t=ρ t:=fun t ht=>by rw[hd,C7,Gi (fun e=>hown d hd (by rw[←e];exact ht))]
        refine MInv.place hb r (u++ [i]) _ (next v (.inl hc) hown ⟨o,ho, .inl hc,hown,hm.sel, .inr ⟨by rw[EN hag];exact hwt,hc,d,hd,?_⟩⟩ hrun);rw[FX hm.sel hag];intro w' hw';rw[show updO ρ o.dst v d=v by rw[hd,C7,Ix]];exact hv w' hw'
theorem WL(hg:Cw l n=true)(hb:Hy l cs pf fl ord=true):
    ∀(fuel:Nat) (listed:Array Bool) (a:Act) (w:AcK) (u r:List Nat) (I:AcK→Prop) (ρ:Ad),(listed.toList.filter (!·)).length=fuel→MInv P l cs pf fl ord n (fun ch w' =>∀ρ',Q (.panic ch) ρ' w') (fun ρ w=>Q .normal ρ w) u r I ρ listed a w→(r= []∨∃c q o,r=c :: q∧c∈cs∧l[c]? =some o∧Bj l o ρ=true) →
      wpAny P .any l.toArray (fun e a' w' =>∃ρ',Fits n ρ' a' ∧Q e ρ' w') fuel listed a w:=by
  have g:=Gb hg;have hall:∀i,i<l.length→i∈ord:=fun i hi=>by
    unfold Hy at hb;rw[AdT,AdT]at hb
    simpa using Adv.1 hb.2.1 i (by simpa using hi)
  have hnd:ord.Nodup:=by
    unfold Hy at hb;rw[AdT]at hb;exact L3 hb.1
  have hlt:∀(i:Nat) (o:Adb),l[i]? =some o→i<l.length:=fun i o ho=>(Adc.1 ho).1
  -- all are done
  have fin:∀(listed:Array Bool) (a:Act) (w:AcK) (u r:List Nat) (I:AcK→Prop) (ρ:Ad),MInv P l cs pf fl ord n (fun ch w' =>∀ρ',Q (.panic ch) ρ' w') (fun ρ w=>Q .normal ρ w) u r I ρ listed a w→(r= []∨∃c q o,r=c :: q∧c∈cs∧l[c]? =some o∧Bj l o ρ=true)→(∀i,i<l.length→On listed i)→∃ρ',Fits n ρ' a∧Q .normal ρ' w:=fun listed a w u r I ρ h hr hon=>by
    rcases hr with rfl | ⟨c,q,o,rfl,-,ho,-⟩
    · refine⟨ρ,⟨h.tmps,h.defers,fun t=>h.agree t fun i hi hni=> ?_⟩,h.run⟩;obtain⟨o,ho,-⟩:=h.pend i hi hni;exact absurd (hon i (hlt i o ho)) hni
    · exact absurd (hon c (hlt c o ho)) (h.rest c (by simp))
  intro fuel
  induction fuel with
  | zero=>
    intro listed a w u r I ρ hfu h hr;have full:∀i,i<l.length→On listed i:=fun i hi=>by
      have:=E1 _ hfu i (by rw[Aew,h.size];omega);unfold On;simp at this;simp[this]
    refine⟨?_,fin listed a w u r I ρ h hr full⟩;cases hrd:AdV .any l.toArray listed with
    | nil=>rfl
    | cons x xs=>
      exfalso;have hmem:x∈AdV .any l.toArray listed:=by rw[hrd];simp
      obtain⟨h1,o,ho,_⟩:=mem_ready.1 hmem;have hx:x<l.length:=by simpa using (Ade.1 ho).1
      have h2:=full x hx;have hx' :x<listed.size:=h2.lt;unfold On at h2;simp[hx']at h1 h2;rw[h1]at h2;cases h2
  | succ fuel ih=>
    intro listed a w u r I ρ hfu h hr;refine⟨fun hrd=>fin listed a w u r I ρ h hr fun i=> ?_,fun i hi=> ?_⟩
    · induction i using Ae0 with
      | _ i ih2=>
        intro hi;refine AdW fun hno=> ?_;have ho:l[i]? =some l[i]:=AcS hi;have:i∈AdV .any l.toArray listed:=by
          refine mem_ready.2 ⟨?_,l[i],by rw[AdG];exact ho,fun e he hb=> ?_⟩
          · have hi' :i<listed.size:=by rw[h.size];exact hi
            unfold On at hno;simp[hi']at hno ⊢;exact hno
          · have hlt:=g.back i _ ho e he hb;exact ih2 e.on hlt (by omega)
        rw[hrd]at this;cases this
    · obtain⟨h1,o,ho,hall0⟩:=mem_ready.1 hi;have ho' :l[i]? =some o:=by simpa using ho
      have hilt:i<l.length:=hlt i o ho';have hil:i<listed.size:=by rw[h.size];exact hilt
      have hno:¬On listed i:=by
        unfold On;simp[hil]at h1 ⊢;exact h1
      have hball:∀e∈o.after,Ad1 .any e=true→On listed e.on:=fun e he hb=>hall0 e he hb;have hI:Inv l (fun _=> []) (fun _ _=>True) (fun _ _=>True) (fun _ _ _=>True) a listed a w:=
        ⟨h.size,h.closed,rfl,rfl,fun _ _ _=>trivial,trivial,fun _ _=>rfl,fun _ _ _ _ _ _ _ _=>trivial⟩
      have hmr:∀k,((AL l []).getD i 0).testBit k=true→On listed k:=fun k hk=>hI.maskReady ho' hball hk;have hcnt:((listed.setIfInBounds i true).toList.filter (!·)).length=fuel:=by
        rw[Ae1];have:=EY listed.toList i (by
          simp[hil]at h1;simp[hil,h1])
        omega
      have hcl:∀j oj,l[j]? =some oj→On (listed.setIfInBounds i true) j→∀e∈oj.after,Ad1 .any e=true→On (listed.setIfInBounds i true) e.on:=fun j oj hj hon e he hb=>by
        rcases(on_set hil).1 hon with rfl | hon
        · obtain rfl:o=oj:=by rw[ho']at hj;exact Adu hj
          exact(on_set hil).2 (.inr (hball e he hb))
        · exact(on_set hil).2 (.inr (h.closed j oj hj hon e he hb))
      have hF:Fits n (fun t=>a.tmps.getD t undef) a:=⟨h.tmps,h.defers,fun t=>rfl⟩;have hroom:∀t,o.dst=some t→t<n:=fun t ht=>g.room i o t ho' ht;have hio:i∈ord:=hall i hilt;rw[h.split]at hio;have hun:∀j,¬On (listed.setIfInBounds i true) j→¬On listed j∧j≠i:=fun j hj=>⟨fun x=>hj ((on_set hil).2 (.inr x)),fun x=>hj ((on_set hil).2 (.inl x))⟩
      -- where it stands in the order
      have hwhere:∃b f,ord=b++i :: f∧(i∈r→b=u∧r=i :: f)∧(i∈u→∀j∈u,j∈b∨j=i∨j∈f):=by
        by_cases hir:i∈r
        · rcases hr with rfl | ⟨c,q,oc,rfl,hc,hoc,-⟩
          · cases hir
          · have:i=c:=by
              rcases Adz.1 hir with x | x
              · exact x
              · exfalso;obtain⟨q1,q2,hq⟩:=Afm x;have hb' :=hb;rw[h.split,hq,show u++c :: (q1++i :: q2)=(u++c :: q1)++i :: q2 by simp]at hb';obtain⟨o2,m,hm⟩:=KG hb';exact h.rest c (by simp) (hmr c (hm.chain c (by simp) hc))
            subst this;exact⟨u,q,h.split,fun _=>⟨rfl,rfl⟩,fun _ j hj=> .inl hj⟩
        · have hiu:i∈u:=(Adf.1 hio).elim id fun x=>absurd x hir;obtain⟨b,z,hu⟩:=Afm hiu;exact⟨b,z++r,by rw[h.split,hu];simp,fun x=>absurd x hir,fun _ j hj=>by rw[hu]at hj;simp at hj ⊢;rcases hj with x | x | x <;> simp[x]⟩
      obtain⟨b,f,hord,hin,hiu1⟩:=hwhere;obtain⟨o2,m,hm⟩:=KG (hord▸hb);obtain rfl:o=o2:=by rw[ho']at m;exact Adu m
      -- what it looks at is as in the order that is walked
      have hlook:∀t∈o.looksAt l.toArray,a.tmps.getD t undef=ρ t:=fun t ht=>h.agree t fun q hq hnq e=>by
        obtain⟨oq,hoq,hcq,hownq,-⟩:=h.pend q hq hnq;have hdq:oq.dst=some t:=by unfold FW at e;rw[hoq]at e;exact e
        rcases Nat.lt_trichotomy q i with hqi | hqi | hqi
        · exact hnq (hmr q (g.tied i o q oq t ho' hoq hqi (.inl ⟨hdq,Aex _ ht⟩)))
        · subst hqi;rw[ho']at hoq;cases hoq;exact hownq t hdq ht
        · -- it is bound ahead of q, which stands behind it
          have hmq:=g.tied q oq i o t hoq ho' hqi (.inr ⟨hdq,Aex _ ht⟩);have hqo:q∈ord:=by rw[h.split];simp[hq]
          obtain⟨p1,p2,hp⟩:=Afm hqo;obtain⟨oq2,hoq2,hmq2⟩:=KG (hp▸hb);rw[hoq]at hoq2;cases hoq2;have hip:=hmq2.lin i hilt hmq;by_cases hic:i∈cs∧DR l i=false
          · -- a chain's operation that has no guard and is still to come stands behind all that is walked
            have hir:i∈r:=(Adf.1 hio).elim (fun x=>by
              obtain⟨oi,hoi,hci,-⟩:=h.pend i x hno;rcases hci with y | y
              · exact absurd hic.1 y
              · rw[hic.2]at y;cases y) id
            obtain⟨e1,-⟩:=hin hir;have hdis:i∉u:=fun x=>by
              have:=h.split▸hnd;exact Uk this x hir
            -- p1 lies within u
            obtain⟨s1,s2,hs⟩:=Afm hq;have p:p1=s1:=by
              have hx:p1++q :: p2=s1++q :: (s2++r):=by rw[←hp,h.split,hs];simp
              exact OW (hp▸hnd) hx
            rw[p]at hip;exact hdis (by rw[hs];simp[hip])
          · have:=(hmq2.sep i hip (by
              by_cases hx:i∈cs
              · right;cases hy:DR l i with
                | true=>rfl
                | false=>exact absurd ⟨hx,hy⟩ hic
              · exact .inl hx) (hcq.elim .inl fun x=> .inr (.inl x)) t hdq).1
            exact this (by unfold looksL;rw[ho'];exact ht)
      have hwa:Ad8 o (yielded l.toArray a.tmps)=Bj l o ρ:=by
        rw[←LZ a o,EN hlook]
      unfold wpOp;simp only[AdG,ho'];by_cases hir:i∈r
      · -- the chain's next operation
        obtain⟨rfl,p⟩:=hin hir;rcases hr with rfl | ⟨c,q,oc,rfl,hc,hoc,hwc⟩
        · cases hir
        obtain⟨rfl,rfl⟩:c=i∧q=f:=by simpa using p
        rw[ho']at hoc;cases hoc;rw[hwa,hwc,if_pos rfl];have hrun:=h.run;unfold DZ at hrun;rw[ho']at hrun;simp only at hrun;rw[if_neg (by rw[hwc];simp),if_pos hc]at hrun;refine .inl (M1 (J:=fun ch w' =>∀ρ',Q (.panic ch) ρ' w') ?_ fun ch w' h=>⟨_,hF,h _⟩);rw[hF.eval,FX (ρ:=ρ) hm.sel hlook];refine Aa2 hrun ?_ fun _ _ h=>h;rintro v w' ⟨I',hI',hII,hrun'⟩;have hne:∀t,o.dst≠some t→updO ρ o.dst v t=ρ t:=fun t ht=>by
          cases hd:o.dst with
          | none=>rfl
          | some d=>rw[C7,Gi (fun e=>ht (by rw[hd,e]))]
        have h0:MInv P l cs pf fl ord n (fun ch w' =>∀ρ',Q (.panic ch) ρ' w') (fun ρ w=>Q .normal ρ w) (b++ [c]) q I' (updO ρ o.dst v) (listed.setIfInBounds c true) (a.put o.dst v) w' :=by
          refine⟨by simpa using h.size,hcl,(hF.put o.dst hroom _).size,(hF.put o.dst hroom _).defers,by rw[hord];simp,fun j hj hx=> ?_,fun j hj hnj=> ?_,fun t ht=> ?_,hI',hrun'⟩
          · rcases(on_set hil).1 hx with rfl | hx
            · have:=hord▸hnd;exact(AeQ.1 (AeY.1 this).2.1).1 hj
            · exact h.rest j (by simp[hj]) hx
          · obtain⟨hnj,hjc⟩:=hun j hnj;have hju:j∈b:=(Adf.1 hj).elim id fun x=>absurd (AcY.1 x) hjc;obtain⟨oj,hoj,hcj,hownj,hselj,hpj⟩:=h.pend j hju hnj;have hup:Pend P l cs pf fl I' ρ w' j:=by
              refine⟨oj,hoj,hcj,hownj,hselj,?_⟩;rcases hpj with x | ⟨x1,x2,d,x3,x4⟩
              · exact .inl x
              · refine .inr ⟨x1,x2,d,x3,fun w2 hw2=> ?_⟩;rcases hm.loc hc j hju x2 with hjp | hjf | hjm
                · exact x4 w2 (.inl hjp)
                · refine x4 w2 (hw2.elim .inl fun hw2=> .inr ?_);rw[if_pos hjf]at hw2 ⊢;rcases hII with hII | hclr
                  · exact hII _ hw2
                  · exfalso;have:=Adv.1 hclr j hjf;rw[AeF]at this;rcases this with y | y
                    · have hz:=hord▸hnd;have hy:j∈c :: q:=by simp at y;simp[y]
                      exact Uk hz hju hy
                    · exact hnj (hmr j y)
                · exact absurd (hmr j hjm) hnj
            have hmj:((AL l []).getD c 0).testBit j=false:=by
              cases hx:((AL l []).getD c 0).testBit j with
              | false=>rfl
              | true=>exact absurd (hmr j hx) hnj
            exact hup.upd (fun t ht=>hne t fun e=>(hm.sep j hju hcj (.inr (.inr hmj)) t e).1 ht) fun t ht=>hne t fun e=>(hm.sep j hju hcj (.inr (.inr hmj)) t e).2 ht
          · rw[(hF.put o.dst hroom _).get t];have hag:(∀j∈b,¬On listed j→FW l j≠some t)→a.tmps.getD t undef=ρ t:=fun hx=>h.agree t hx;have hag' :=hag fun j hj hnj=>ht j (by simp[hj]) fun x=>by
              rcases(on_set hil).1 x with rfl | x
              · have hz:=hord▸hnd;exact Uk hz hj (by simp)
              · exact hnj x
            cases hd:o.dst with
            | none=>exact hag'
            | some d=>
              rw[C7,C7];by_cases e:t=d
              · subst e;rw[Ix,Ix]
              · rw[Gi e,Gi e];exact hag'
        obtain⟨u',r',ρ',hp,hr'⟩:=h0.place hb;exact ih _ _ _ u' r' I' ρ' hcnt hp hr'
      · -- one that was walked
        have hiu:i∈u:=(Adf.1 hio).elim id fun x=>absurd x hir;obtain⟨o3,s,hci,hown,hsel,hp⟩:=h.pend i hiu hno;rw[ho']at s;cases s;have next:∀v,(∀d,o.dst=some d→v=ρ d)→wpAny P .any l.toArray (fun e a' w' =>∃ρ',Fits n ρ' a' ∧Q e ρ' w') fuel (listed.setIfInBounds i true) (a.put o.dst v) w:=fun v hv=>by
          refine ih _ _ _ u r I ρ hcnt ⟨by simpa using h.size,hcl,(hF.put o.dst hroom _).size,(hF.put o.dst hroom _).defers,h.split,fun j hj hx=> ?_,fun j hj hnj=>h.pend j hj (hun j hnj).1,fun t ht=> ?_,h.holds,h.run⟩ hr
          · rcases(on_set hil).1 hx with rfl | hx
            · exact hir hj
            · exact h.rest j hj hx
          · rw[(hF.put o.dst hroom _).get t];by_cases e:o.dst=some t
            · rw[e,C7,Ix];exact hv t e
            · have hx:updO (fun t=>a.tmps.getD t undef) o.dst v t=a.tmps.getD t undef:=by
                cases hd:o.dst with
                | none=>rfl
                | some d=>rw[C7,Gi (fun x=>e (by rw[hd,x]))]
              rw[hx];refine h.agree t fun j hj hnj=> ?_;by_cases hji:j=i
              · subst hji;unfold FW;rw[ho'];exact e
              · exact ht j hj fun x=>by
                  rcases(on_set hil).1 x with x | x
                  · exact hji x
                  · exact hnj x
        rcases hp with ⟨x1,x2⟩ | ⟨x1,x2,d,x3,x4⟩
        · rw[hwa,x1,if_neg (by simp)];exact next undef fun d hd=>(x2 d hd).symm
        · rw[hwa,x1,if_pos rfl];refine .inl (Nr ?_);rw[hF.eval,FX (ρ:=ρ) hsel hlook];refine Yk.mono (x4 w (.inr (by split <;> first | exact h.holds | rfl))) ?_;rintro v w' ⟨rfl,rfl⟩;exact next _ fun d' hd' =>by rw[x3]at hd';cases hd';rfl
end
def Never{α:Type}(x:Sem α):Prop:=∀(P:Adg) (w:AcK) (a:α) (w' :AcK),x.run P w ≠ .ok a w'
def Steady{α:Type}(x:Sem α):Prop:=∀(P:Adg) (w:AcK) (a:α) (w' :AcK),x.run P w = .ok a w' →w' =w∧∀w2,x.run P w2 = .ok a w2
theorem Never.steady{α:Type}{x:Sem α}(h:Never x):Steady x:=fun P w a w' e=>absurd e (h P w a w')
theorem Steady.pure{α:Type}(a:α):Steady (Pure.pure a:Sem α):=fun P w b w' h=>by
  simp only[Ac3,Result.ok.injEq]at h ⊢;exact⟨h.2.symm,fun _=>⟨h.1,trivial⟩⟩
theorem Steady.bind{α β:Type}{x:Sem α}{f:α→Sem β}(hx:Steady x)(hf:∀a,Steady (f a)):Steady (x >>= f):=fun P w b w' h=>by
  rw[Ac1]at h;cases hr:x.run P w with
  | ok a w1=>
    rw[hr,AcV]at h;obtain⟨rfl,h1⟩:=hx P w a w1 hr;obtain⟨rfl,h2⟩:=hf a P w1 b w' h;exact⟨rfl,fun w2=>by rw[Ac1,h1 w2,AcV];exact h2 w2⟩
  | halt e w1=>rw[hr]at h;cases h
theorem Never.bind{α β:Type}{x:Sem α}{f:α→Sem β}(hf:∀a,Never (f a)):Never (x >>= f):=fun P w b w' h=>by
  rw[Ac1]at h;cases hr:x.run P w with
  | ok a w1=>rw[hr,AcV]at h;exact hf a P w1 b w' h
  | halt e w1=>rw[hr]at h;cases h
theorem Never.halt{α:Type}(e:Halt):Never (Sem.halt e:Sem α):=fun P w a w' h=>by cases h
theorem GZ{α:Type}(e:RuntimeError):Never (runtimePanic e:Sem α):=Never.bind fun p=>by
  cases e <;> first | exact Never.halt _ | exact Never.bind fun _=>Never.bind fun _=>Never.halt _
theorem Steady.program:Steady program:=fun P w a w' h=>by
  have h:AhY P w=AhY a w' :=h;cases h;exact⟨rfl,fun _=>rfl⟩
theorem Steady.underlying(t:AcR):Steady (underlying t):=Steady.bind .program fun p=>by
  cases p.underlying t with
  | none=>exact(Never.halt _).steady
  | some d=>exact .pure d
theorem Steady.sizeOf(t:AcR):Steady (sizeOf t):=Steady.bind (Steady.bind .program fun p=>by
  cases p.info? t with
  | none=>exact(Never.halt _).steady
  | some d=>exact .pure d) fun _=> .pure _
theorem Steady.asIntOf(v:AcJ):Steady (asIntOf v):=by
  unfold Go.asIntOf;split
  · exact .pure _
  · exact(Never.halt _).steady
  · exact(Never.halt _).steady
theorem Steady.sureAddr(v:AcJ):Steady (Aff v):=by
  unfold Aff;split
  · exact .pure _
  · exact(Never.halt _).steady
theorem Ns{α:Type}(k:AdU)(x y:Int)(c:BoundsCode):Never (boundsPanic k x y c:Sem α):=by
  unfold boundsPanic
  dsimp only
  split
  · exact Never.bind fun s=>GZ _
  · exact Never.bind fun s=>GZ _
theorem Steady.indexAt(t:AcR)(x i:AcJ):Steady (Instr.indexAt t x i):=by
  unfold Instr.indexAt
  repeat' first
    | exact Steady.pure _
    | exact(Never.halt _).steady
    | exact Steady.underlying _
    | exact Steady.sizeOf _
    | exact Steady.asIntOf _
    | exact Steady.sureAddr _
    | exact Steady.asAddr _
    | exact(Ns _ _ _ _).steady
    | exact(GZ _).steady
    | refine Steady.bind ?_ fun _=> ?_
    | split
    | dsimp only
theorem R1{P:Adg}{K:AcJ→AcK→Prop}{s:Sem AcJ}{w:AcK}(hs:Steady s)(h:Yk P K ((do pure (Aio (←s)):Sem Next).run P w)):
    ∃v,K v w∧∀w',Yk P (fun x w'' =>x=v∧w'' =w') ((do pure (Aio (←s)):Sem Next).run P w'):=by
  rw[Ac1]at h;cases hr:s.run P w with
  | ok a w1=>
    rw[hr,AcV,Ac3]at h;obtain⟨rfl,h1⟩:=hs P w a w1 hr;exact⟨a,h,fun w' =>by rw[Ac1,h1 w',AcV,Ac3];exact⟨rfl,rfl⟩⟩
  | halt e w1=>rw[hr]at h;exact h.elim
end Go.Proofs.YtfpekahfdalfkaaGreatDoor
