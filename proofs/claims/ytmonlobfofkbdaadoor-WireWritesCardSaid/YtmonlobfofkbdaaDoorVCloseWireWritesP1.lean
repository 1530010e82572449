/- Part 1 of what stands behind closeWireWrites.card: laws and walks of the functions that are reached. Conditions: those that each theorem names. -/
import Derived.Test.YtmonlobfofkbdaaDoorV7
set_option linter.unusedVariables false
set_option linter.unusedSimpArgs false
namespace Go.Proofs.YtmonlobfofkbdaaDoor
open Go.ChangeShapes Go.WideShapes Go.ChangeAt Go.RowKit Go.Deep
section
variable {H : Type} (enc : TypeId × Value → H) (P : Program) (W : World)
def Opn{α:Type}(t:TypeId)(f:α→List Value)(OK:α→Prop):Prop:=
  ∀fuel cs (x:DataW H × List MemPlace),DataW.trod enc P W 0 (fun _=>true) true fuel t cs=some x→∃a,cs=f a∧OK a
end
section
variable {H : Type} {enc : TypeId × Value → H} {P : Program} {W : World}
theorem Opn.u8{t:TypeId}(ht:P.underlying t=some (.int .u8)):Opn enc P W t (fun b:UInt8=> [B8 b]) (fun _=>True):=fun fuel cs x h=>by
  obtain⟨n,rfl,-,hw⟩:=DataW.trod_int ht h
  have hb:0≤n∧n≤255:=by simpa [Lit.wf,IntKind.min,IntKind.max,IntKind.signed,IntKind.bits] using hw
  refine⟨UInt8.ofNat n.toNat,?_,trivial⟩
  congr 2
  simp
  omega
theorem Opn.i64{t:TypeId}(ht:P.underlying t=some (.int .i64)):Opn enc P W t (fun z:Int=> [.int .i64 z]) (fun z=> -9223372036854775808≤z∧z≤9223372036854775807):=fun fuel cs x h=>by
  obtain⟨n,rfl,-,hw⟩:=DataW.trod_int ht h
  exact⟨n,rfl,by simpa [Lit.wf,IntKind.min,IntKind.max,IntKind.signed,IntKind.bits] using hw⟩
theorem Opn.bool{t:TypeId}(ht:P.underlying t=some .bool):Opn enc P W t (fun b:Bool=> [.bool b]) (fun _=>True):=fun fuel cs x h=>by
  obtain⟨b,rfl,-⟩:=DataW.trod_bool ht h
  exact⟨b,rfl,trivial⟩
theorem Opn.str{t:TypeId}(ht:P.underlying t=some .string):Opn enc P W t (fun l:Bs=> [St l]) (fun _=>True):=fun fuel cs x h=>by
  obtain⟨s,rfl,-,-⟩:=DataW.trod_string ht h
  exact⟨s.data.toList,by simp,trivial⟩
theorem Opn.id{t e:TypeId}(ht:P.underlying t=some (.array 32 e))(he:P.underlying e=some (.int .u8))(hc:P.cellsOf e=1)(hn:P.cellsOf t=32):Opn enc P W t (fun b:CI=>Lib.byteCells b.1) (fun _=>True):=fun fuel cs x h=>by
  obtain⟨l,hl,rfl⟩:=JD ht he hc hn h
  exact⟨⟨l,hl⟩,rfl,trivial⟩
theorem Opn.bytes{t e:TypeId}(ht:P.underlying t=some (.slice e))(he:P.underlying e=some (.int .u8))(hc:P.cellsOf e=1):Opn enc P W t (fun v:Value × Bs=> [v.1]) (fun v=>RB W v.1 v.2):=fun fuel cs x h=>by
  obtain⟨c,l,rfl,h1,-⟩:=Kw ht he hc h
  exact⟨(c,l),rfl,h1⟩
theorem Ji{α:Type}{k:Nat}{f:α→List Value}(d:α):∀(l:List α),(∀x∈l,(f x).length=k)→∀i r,r<k→i<l.length→(l.flatMap f)[i*k+r]? =(f (l.getD i d))[r]?
  | [],_,i,r,_,hi=>by cases hi
  | a :: l,h,0,r,hr,_=>by
    rw[List.flatMap_cons,Nat.zero_mul,Nat.zero_add,List.getElem?_append_left (by rw[h a (by simp)];exact hr)]
    rfl
  | a :: l,h,i+1,r,hr,hi=>by
    have ha:=h a (by simp)
    rw[List.flatMap_cons,List.getElem?_append_right (by rw[ha,Nat.add_mul];omega),ha,show(i+1)*k+r-k=i*k+r by rw[Nat.add_mul];omega]
    exact Ji d l (fun x hx=>h x (by simp[hx])) i r hr (by simpa using hi)
theorem GK{α:Type}{k:Nat}{f:α→List Value}:∀(l:List α),(∀x∈l,(f x).length=k)→(l.flatMap f).length=l.length*k
  | [],_=>by simp
  | a :: l,h=>by rw[List.flatMap_cons,List.length_append,h a (by simp),GK l (fun x hx=>h x (by simp[hx])),List.length_cons,Nat.add_mul];omega
theorem Opn.slice{α:Type}[Inhabited α]{k:Nat}{f:α→List Value}{OK:α→Prop}{t e:TypeId}(ht:P.underlying t=some (.slice e))(hc:P.cellsOf e=k)(hk:0<k)(hE:Opn enc P W e f OK)(hl:∀a,OK a→(f a).length=k):
    Opn enc P W t (fun v:Value × List α=> [v.1]) (fun v=>RG k f W v.1 v.2∧∀a∈v.2,OK a):=fun fuel cs x h=>by
  rcases open_slice ht h with ⟨rfl,-⟩ | ⟨a,len,cap,m,n,D,Pl,rfl,-,h1,h2,h3,-,h4⟩
  · exact⟨(_,[]),rfl,RG.nil _ _ _,fun a ha=>by cases ha⟩
  · have hm:m=cap:=by simpa using h3
    obtain⟨L,hL⟩:=choose_lt (α:=α) (p:=fun i q=>W.cells? 0 (a.add (i*k)) k=some (f q)∧OK q) (fun i (hi:i<len)=>by
      obtain⟨cs',c1,c2⟩:=h4 i (by omega)
      obtain⟨q,rfl,hq⟩:=hE _ _ _ c2
      rw[hc]at c1
      exact⟨q,c1,hq⟩)
    have hall:∀x∈(List.range len).map L,(f x).length=k∧OK x:=fun x hx=>by
      obtain⟨i,hi,rfl⟩:=List.mem_map.1 hx
      have:=hL i (by simpa using hi)
      exact⟨hl _ this.2,this.2⟩
    have hlen:((List.range len).map L).length=len:=by simp
    refine⟨(.slice (some a) len cap,(List.range len).map L),rfl,⟨fun x hx=>(hall x hx).1,by rw[GK _ (fun x hx=>(hall x hx).1)],some a,cap,by rw[hlen],by rw[hlen];exact h1,h2,(fun h=>by cases h),fun a' ha j u hu=> ?_⟩,fun x hx=>(hall x hx).2⟩
    cases ha
    have hj:j<len*k:=by
      have:=(List.getElem?_eq_some_iff.1 hu).1
      rwa [GK _ (fun x hx=>(hall x hx).1),hlen]at this
    have hi:j/k<len:=Nat.div_lt_of_lt_mul (by rw[Nat.mul_comm];exact hj)
    have hr:j%k<k:=Nat.mod_lt _ hk
    have hjk:j/k*k+j%k=j:=by rw[Nat.mul_comm];exact Nat.div_add_mod j k
    rw[←hjk,Ji default _ (fun x hx=>(hall x hx).1) _ _ hr (by rw[hlen];exact hi)]at hu
    have hg:((List.range len).map L).getD (j/k) default=L (j/k):=by
      rw[List.getD_eq_getElem?_getD,List.getElem?_map,List.getElem?_range hi];rfl
    rw[hg]at hu
    obtain⟨-,-,hcell⟩:=World.cells?_some (hL _ hi).1
    have:=hcell (j%k) hr
    rw[EY,hjk,hu]at this
    exact this
theorem O2{cs m:List Value}{o k:Nat}(h:(cs.drop o).take k=m):cs.drop o=m++cs.drop (o+k):=by
  rw[←h,←List.drop_drop,List.take_append_drop]
theorem By{t ty:TypeId}{i o k fuel:Nat}{cs:List Value}{x:DataW H × List MemPlace}{α:Type}{f:α→List Value}{OK:α→Prop}(ht:P.underlying t=some (.struct (P.fieldsOf t)))(h:DataW.trod enc P W 0 (fun _=>true) true fuel t cs=some x) 
    (hf:((P.fieldsOf t)[i]?).map (fun f=>(f.type,f.offset))=some (ty,o)) (hk:P.cellsOf ty=k) (hE:Opn enc P W ty f OK):∃a,cs.drop o=f a++cs.drop (o+k)∧OK a:=by
  obtain⟨xs,n,-,-,-,hl,hx⟩:=DataW.trod_struct ht h
  obtain⟨g,hg,he⟩:=Option.map_eq_some_iff.1 hf
  have h1:=hx i g hg
  cases he
  have hi:i<xs.length:=by rw[hl];exact(Array.getElem?_eq_some_iff.1 hg).1
  rw[List.getElem?_eq_getElem hi,hk]at h1
  obtain⟨a,h2,h3⟩:=hE _ _ _ h1
  exact⟨a,O2 h2,h3⟩
theorem Il{t:TypeId}{fuel:Nat}{cs:List Value}{x:DataW H × List MemPlace}(ht:P.underlying t=some (.struct (P.fieldsOf t)))(h:DataW.trod enc P W 0 (fun _=>true) true fuel t cs=some x):cs.length=P.cellsOf t:=by
  obtain⟨xs,n,-,-,hl,-,-⟩:=DataW.trod_struct ht h
  exact hl
end
open Go.RowKit
set_option maxRecDepth 100000
open Go.ChangeShapes Go.WideShapes Go.ChangeAt Go.Deep
theorem KU{H:Type}{enc:TypeId × Value→H}{W:World}:Opn enc Tryd.prog W 67 updC (fun x:AJ=>True):=fun fuel cs x h=>by
 have ht:Tryd.prog.underlying 67=some (.struct (Tryd.prog.fieldsOf 67)):=by kernel_rfl
 obtain⟨a0,a,k0⟩:=By (i:=0) (ty:=5) (o:=0) (k:=1) ht h (by kernel_rfl) (by kernel_rfl) (Opn.u8 (by kernel_rfl))
 obtain⟨a1,b,k1⟩:=By (i:=1) (ty:=9) (o:=1) (k:=1) ht h (by kernel_rfl) (by kernel_rfl) (Opn.str (by kernel_rfl))
 obtain⟨a2,c,k2⟩:=By (i:=2) (ty:=25) (o:=2) (k:=32) ht h (by kernel_rfl) (by kernel_rfl) (Opn.id (e:=5) (by kernel_rfl) (by kernel_rfl) (by kernel_rfl) (by kernel_rfl))
 obtain⟨a3,f,k3⟩:=By (i:=3) (ty:=25) (o:=34) (k:=32) ht h (by kernel_rfl) (by kernel_rfl) (Opn.id (e:=5) (by kernel_rfl) (by kernel_rfl) (by kernel_rfl) (by kernel_rfl))
 have hl:cs.drop 66= []:=List.drop_of_length_le (Nat.le_of_eq ((Il ht h).trans (by kernel_rfl)))
 refine⟨⟨a0,a1,a2,a3⟩,?_,trivial⟩
 rw[show cs=cs.drop 0 from rfl]
 rw[a]
 rw[show cs.drop (0+1)=_ from b]
 rw[show cs.drop (1+1)=_ from c]
 rw[show cs.drop (2+32)=_ from f]
 rw[show cs.drop (34+32)= []from hl]
 simp[updC]
instance:Inhabited AJ:=⟨Ac⟩
theorem Opn.ids{H:Type}{enc:TypeId × Value→H}{P:Program}{W:World}{t e b:TypeId}(ht:P.underlying t=some (.slice e))(he:P.underlying e=some (.array 32 b))(h8:P.underlying b=some (.int .u8))(hc:P.cellsOf b=1)(hn:P.cellsOf e=32):Opn enc P W t (fun v:Value × List Bs=> [v.1]) (fun v=>RG 32 Lib.byteCells W v.1 v.2∧True):=fun fuel cs x h=>by
 have hE:Opn enc P W e (fun l:Bs=>Lib.byteCells l) (fun l=>l.length=32):=fun fuel cs x h=>by
  obtain⟨l,hl,rfl⟩:=JD he h8 hc hn h
  exact⟨l,rfl,hl⟩
 obtain⟨a,h1,h2⟩:=Opn.slice ht hn (by decide) hE (fun a ha=>by rw[Lib.byteCells_length,ha]) fuel cs x h
 exact⟨a,h1,h2.1,trivial⟩
theorem KV{H:Type}{enc:TypeId × Value→H}{W:World}:Opn enc Tryd.prog W 29 msgC (fun x:Ah=>RG 66 updC W x.2.refs x.1.refs∧RG 32 Lib.byteCells W x.2.wants x.1.wants∧RG 32 Lib.byteCells W x.2.haves x.1.haves∧RB W x.2.bytes x.1.bytes):=fun fuel cs x h=>by
 have ht:Tryd.prog.underlying 29=some (.struct (Tryd.prog.fieldsOf 29)):=by kernel_rfl
 obtain⟨a0,c,k0⟩:=By (i:=0) (ty:=5) (o:=0) (k:=1) ht h (by kernel_rfl) (by kernel_rfl) (Opn.u8 (by kernel_rfl))
 obtain⟨a1,f,k1⟩:=By (i:=1) (ty:=3) (o:=1) (k:=1) ht h (by kernel_rfl) (by kernel_rfl) (Opn.i64 (by kernel_rfl))
 obtain⟨a2,g,k2⟩:=By (i:=2) (ty:=22) (o:=2) (k:=1) ht h (by kernel_rfl) (by kernel_rfl) (Opn.slice (by kernel_rfl) (by kernel_rfl) (by decide) KU (fun a _=>BH a))
 obtain⟨a3,j,k3⟩:=By (i:=3) (ty:=23) (o:=3) (k:=1) ht h (by kernel_rfl) (by kernel_rfl) (Opn.ids (e:=25) (b:=5) (by kernel_rfl) (by kernel_rfl) (by kernel_rfl) (by kernel_rfl) (by kernel_rfl))
 obtain⟨a4,l,k4⟩:=By (i:=4) (ty:=23) (o:=4) (k:=1) ht h (by kernel_rfl) (by kernel_rfl) (Opn.ids (e:=25) (b:=5) (by kernel_rfl) (by kernel_rfl) (by kernel_rfl) (by kernel_rfl) (by kernel_rfl))
 obtain⟨a5,m,k5⟩:=By (i:=5) (ty:=3) (o:=5) (k:=1) ht h (by kernel_rfl) (by kernel_rfl) (Opn.i64 (by kernel_rfl))
 obtain⟨a6,n,k6⟩:=By (i:=6) (ty:=3) (o:=6) (k:=1) ht h (by kernel_rfl) (by kernel_rfl) (Opn.i64 (by kernel_rfl))
 obtain⟨a7,p,k7⟩:=By (i:=7) (ty:=25) (o:=7) (k:=32) ht h (by kernel_rfl) (by kernel_rfl) (Opn.id (e:=5) (by kernel_rfl) (by kernel_rfl) (by kernel_rfl) (by kernel_rfl))
 obtain⟨a8,b,k8⟩:=By (i:=8) (ty:=26) (o:=39) (k:=1) ht h (by kernel_rfl) (by kernel_rfl) (Opn.bytes (e:=5) (by kernel_rfl) (by kernel_rfl) (by kernel_rfl))
 obtain⟨a9,q,k9⟩:=By (i:=9) (ty:=9) (o:=40) (k:=1) ht h (by kernel_rfl) (by kernel_rfl) (Opn.str (by kernel_rfl))
 obtain⟨a10,r,k10⟩:=By (i:=10) (ty:=25) (o:=41) (k:=32) ht h (by kernel_rfl) (by kernel_rfl) (Opn.id (e:=5) (by kernel_rfl) (by kernel_rfl) (by kernel_rfl) (by kernel_rfl))
 obtain⟨a11,s,k11⟩:=By (i:=11) (ty:=25) (o:=73) (k:=32) ht h (by kernel_rfl) (by kernel_rfl) (Opn.id (e:=5) (by kernel_rfl) (by kernel_rfl) (by kernel_rfl) (by kernel_rfl))
 obtain⟨a12,t,k12⟩:=By (i:=12) (ty:=4) (o:=105) (k:=1) ht h (by kernel_rfl) (by kernel_rfl) (Opn.bool (by kernel_rfl))
 obtain⟨a13,u,k13⟩:=By (i:=13) (ty:=27) (o:=106) (k:=1) ht h (by kernel_rfl) (by kernel_rfl) (Opn.i64 (by kernel_rfl))
 have hl:cs.drop 107= []:=List.drop_of_length_le (Nat.le_of_eq ((Il ht h).trans (by kernel_rfl)))
 refine⟨(⟨a0,a1,a2.2,a3.2,a4.2,a5,a6,a7,a8.2,a9,a10,a11,a12,a13⟩,⟨a2.1,a3.1,a4.1,a8.1⟩),?_,⟨k2.1,k3.1,k4.1,k8⟩⟩
 rw[show cs=cs.drop 0 from rfl]
 rw[c]
 rw[show cs.drop (0+1)=_ from f]
 rw[show cs.drop (1+1)=_ from g]
 rw[show cs.drop (2+1)=_ from j]
 rw[show cs.drop (3+1)=_ from l]
 rw[show cs.drop (4+1)=_ from m]
 rw[show cs.drop (5+1)=_ from n]
 rw[show cs.drop (6+1)=_ from p]
 rw[show cs.drop (7+32)=_ from b]
 rw[show cs.drop (39+1)=_ from q]
 rw[show cs.drop (40+1)=_ from r]
 rw[show cs.drop (41+32)=_ from s]
 rw[show cs.drop (73+32)=_ from t]
 rw[show cs.drop (105+1)=_ from u]
 rw[show cs.drop (106+1)= []from hl]
 simp[msgC]
theorem NQ{H:Type}{enc:TypeId × Value→H}{W:World}{r:Reach}{b0:Nat}{v:Value}{d:DataW H}{ps:List MemPlace}(hval:Value.okWide Tryd.prog W r b0 29 v)(hd:DataW.Trod enc Tryd.prog W 0 (fun _=>true) true 29 v d ps):
  ∃x:Ah,v = .agg (msgC x).toArray∧MsgAt W x∧∀p∈ps,p.block<W.heap.size:=by
 obtain⟨fuel,hf⟩:=hd
 have hlt:=DataW.trod_lt fuel _ _ _ hf
 obtain⟨cs,rfl,-⟩:=okWide_struct (fs:=Tryd.prog.fieldsOf 29) (by kernel_rfl) hval
 obtain⟨x,h1,h2,h3,h4,h5⟩:=KV _ _ _ hf
 have h1:cs.toList=msgC x:=h1
 exact⟨x,by rw[←h1],⟨h2,h3,h4,h5⟩,hlt⟩
end Go.Proofs.YtmonlobfofkbdaaDoor
