/- Part 3 of what stands behind these statements: laws and walks of the functions that are reached. Conditions: those that each theorem names. -/
import Derived.Test.YtcegdjpdnlaleaaDoorO2
set_option linter.unusedVariables false
set_option linter.unusedSimpArgs false
namespace Go.Proofs.YtcegdjpdnlaleaaDoor
open Go.RowKit
open Go.WideMaps (KeyLaw)
structure IX (w0 w : World) (b base : Nat) (I : TypeId) (G : List UInt8 → List Nat) : Prop where
  ext:Ext w0 w
  lo:w0.heap.size≤b
  hb:base≤w.heap.size
  idx:IdxAt w b base I G
structure IXO (w0 w : World) (b base : Nat) (I : TypeId) (G : List UInt8 → List Nat) (r : List UInt8) (v : Value) (zs : List Nat) (st : Nat) : Prop where
  ext:Ext w0 w
  lo:w0.heap.size≤b
  hb:base≤w.heap.size
  opn:IdxOpen w b base I G r v zs st
section
variable {P : Program} {K : Value → World → Prop} {ρ : Ae} {w w' : World} {d : Option Tmp} {ty : TypeId} {pos : String} {af : Array Edge} {gd : Option (Nat × Bool)}
variable {w0 : World} {b base : Nat} {I : TypeId} {G : List UInt8 → List Nat} {r : List UInt8} {v : Value} {zs : List Nat} {st : Nat}
theorem IX.keep(h:IX w0 w b base I G)(k:Ext w w'):IX w0 w' b base I G:=⟨h.ext.trans k,h.lo,Nat.le_trans h.hb k.size,h.idx.keep k⟩
theorem Yk.makeMap{t:TypeId}(hk:∀b w',w.heap.size=b→IX w w' b (b+1) I (fun _=> [])→K (.map (some b)) w'):Yk P K ((execOp (Ab ρ) ⟨d, .makeMap t none,ty,pos,af,gd⟩).run P w):=by
  refine Yk.value (v:= .map (some w.heap.size)) (w' :=w.alloc (.map #[] 0)) ?_ (hk _ _ rfl ⟨(Below.refl _ _).alloc (Nat.le_refl _) _,Nat.le_refl _,by simp,IdxAt.made w⟩)
  unfold execOp
  simp only[Option.map_none,Sem.run_bind,run_makeMap,Result.andThen_ok,Sem.run_pure]
theorem Yk.entry{t Kt E:TypeId}(L:KeyLaw P Kt)(hkr:∀r:List UInt8,r.length=8→∃l,keyOf P Kt (rk r)=some l)(ht:P.underlying t=some (.map Kt E))(hz:∀u:World,(zeroValue E).run P u = .ok (.slice none 0 0) u){x y:Operand} 
    (hm:Ab ρ x = .map (some b)) (hy:Ab ρ y=rk r) (h:IX w0 w b base I G) (hr:r.length=8) (hk:∀v st w1,IXO w0 w1 b base I G r v (G r) st→w.grownBy w1 (some b)→K (.tuple #[v,NI st]) w1):
    Yk P K ((execOp (Ab ρ) ⟨d, .mapEntry t x y,ty,pos,af,gd⟩).run P w):=by
  obtain⟨v,st,w1,hrun,hg,hs,ho⟩:=h.idx.entry L hkr ht hz hr
  refine Yk.value (v:= .tuple #[v,NI st]) (w' :=w1) ?_ (hk v st w1 ⟨Below.grown h.ext hg h.ext.size (fun k hk=>by cases hk;exact h.lo),h.lo,by rw[hs];exact h.hb,ho⟩ hg)
  unfold execOp
  simp only[hm,hy,Sem.run_bind,hrun,Result.andThen_ok,Sem.run_pure]
  rfl
theorem Yk.entryStore{t:TypeId}{x s y:Operand}(hm:Ab ρ x = .map (some b))(hs:Ab ρ s=NI st)(hy:Ab ρ y=v)(h:IXO w0 w b base I G r v zs st)(hne:zs≠ [])(hk:∀w1,IX w0 w1 b base I (updG G r zs)→K undef w1):
    Yk P K ((execOp (Ab ρ) ⟨d, .entryStore t x s y,ty,pos,af,gd⟩).run P w):=by
  obtain⟨w1,hrun,hg,hsz,ho⟩:=h.opn.store (P:=P) (t:=t) hne
  have hrun' :(Instr.entryStore t (.map (some b)) (NI st) v).run P w = .ok () w1:=hrun
  have hK:=hk w1 ⟨Below.grown h.ext hg h.ext.size (fun k hk=>by cases hk;exact h.lo),h.lo,by rw[hsz];exact h.hb,ho⟩
  unfold execOp
  simp only[hm,hs,hy,Sem.run_bind,hrun',Result.andThen_ok,Sem.run_pure]
  exact hK
theorem IXO.own(h:IXO w0 w b base I G r v zs st):w.ownsRow base I 1 v zs.length (zs.map NI):=h.opn.2.2.1
theorem IXO.grew{v' :Value}{zs' :List Nat}(h:IXO w0 w b base I G r v zs st)(gr:Grew w w' v v')(ho:w'.ownsRow base I 1 v' zs'.length (zs'.map NI)):IXO w0 w' b base I G r v' zs' st:=
  ⟨Below.grown h.ext gr.by_ h.ext.size (fun k hk=>Nat.le_trans h.lo (Nat.le_trans (Nat.le_of_lt h.opn.1) (h.own.lt k hk).1)),h.lo,Nat.le_trans h.hb gr.by_.size,h.opn.grew gr ho⟩
theorem Yk.toArr{t e:TypeId}{n:Nat}(ht:P.underlying t=some (.array n e)){x:Operand}{l:List UInt8}(h:RB w (Ab ρ x) l)(hl:l.length=n)(hn:0<n)(hk:∀g o,w.rangeAt g o (Lib.byteCells l)→K (.pointer (some ⟨g,o,none⟩)) w):
    Yk P K ((execOp (Ab ρ) ⟨d, .sliceToArrayPointer t x,ty,pos,af,gd⟩).run P w):=by
  obtain⟨g,o,cap,hv,h1,h2,h3,h4⟩:=h.open_ (by omega)
  refine Yk.value (v:= .pointer (some ⟨g,o,none⟩)) (w' :=w) ?_ (hk g o fun j v hj=> ?_)
  · unfold execOp
    simp only[hv,Instr.arrayAt,Sem.run_bind,run_underlying ht,Result.andThen_ok]
    rw[if_neg (by omega)]
    rfl
  · have hj' :j<l.length:=by simpa [Lib.byteCells] using (List.getElem?_eq_some_iff.1 hj).1
    rw[h4 j hj',←hj]
    simp[Lib.byteCells,hj',List.getD]
theorem Yk.look{t Kt E:TypeId}(L:KeyLaw P Kt)(hkr:∀r:List UInt8,r.length=8→∃l,keyOf P Kt (rk r)=some l)(ht:P.underlying t=some (.map Kt E))(hz:∀u:World,(zeroValue E).run P u = .ok (.slice none 0 0) u){x y:Operand} 
    (hm:Ab ρ x = .map (some b)) (hy:Ab ρ y=rk r) (h:IdxAt w b base I G) (hr:r.length=8) (hk:∀v,w.ownsRow base I 1 v (G r).length ((G r).map NI)→K v w):
    Yk P K ((execOp (Ab ρ) ⟨d, .lookup t x y false,ty,pos,af,gd⟩).run P w):=by
  obtain⟨v,hrun,ho⟩:=h.look L hkr ht hz hr
  refine Yk.value (v:=v) (w' :=w) ?_ (hk v ho)
  unfold execOp
  simp only[hm,hy,Sem.run_bind,hrun,Result.andThen_ok,Sem.run_pure]
end
def posOf(l:List UInt8)(k:Nat)(r:List UInt8):List Nat:=(List.range k).filter fun j=>(l.drop j).take 8==r
theorem Oj(l:List UInt8)(k:Nat):updG (posOf l k) ((l.drop k).take 8) (posOf l k ((l.drop k).take 8)++ [k])=posOf l (k+1):=by
  funext s
  unfold updG posOf
  rw[List.range_succ,List.filter_append]
  by_cases h:s=(l.drop k).take 8
  · subst h
    rw[if_pos rfl]
    simp
  · rw[if_neg h]
    have:((l.drop k).take 8==s)=false:=by simpa using fun e=>h e.symm
    simp[this]
theorem Nc(l:List UInt8):posOf l 0=fun _=> []:=by
  funext s
  rfl
theorem posOf_length(l:List UInt8)(k:Nat)(r:List UInt8):(posOf l k r).length≤k:=by
  have:=List.length_filter_le (fun j=>(l.drop j).take 8==r) (List.range k)
  rw[List.length_range]at this
  exact this
theorem Ok:KeyLaw Tryd.prog 100:=deep_law_laid (by kernel_rfl) (m:=3) (by decide) (of_decide_eq_true (by kernel_rfl)) (by kernel_rfl) (by kernel_rfl)
theorem Om:∀r:List UInt8,r.length=8→∃l,keyOf Tryd.prog 100 (rk r)=some l:=fun _ h=>
  JL (n:=8) (e:=5) Tryd.underlying100 Tryd.underlying5 (by kernel_rfl) (by kernel_rfl) (by kernel_rfl) (of_decide_eq_true (by kernel_rfl)) h
theorem Lf:∀u:World,(zeroValue 54).run Tryd.prog u = .ok (.slice none 0 0) u:=fun _=>by kernel_rfl
theorem RO:(Tryd.prog.info? 3).map (fun i=>(i.zero,i.size,i.bytes))=some (some (.int .i64 0),1,8):=by kernel_rfl
open Go.RowKit
set_option maxRecDepth 100000
theorem F6:(Tryd.prog.info? 100).map (·.size)=some 8:=by kernel_rfl
theorem GG:Tryd.prog.underlying 100=some (.array 8 5):=by kernel_rfl
theorem Nd{d:Option Tmp}{ty:TypeId}{pos:String}{af:Array Edge}{gd:Option (Nat × Bool)}(σ:Operand→Value)(w:World):(execOp σ ⟨d, .alloc 100,ty,pos,af,gd⟩).run Tryd.prog w = .ok (.value (PQ w.heap.size 0)) (w.alloc (.cells (Lib.byteCells (List.replicate 8 0)).toArray 100)):=by kernel_rfl
theorem Nf(z:Int)(w:World):(Instr.buildSlice 54 1 #[(0, .int .i64 z)]).run Tryd.prog w = .ok (.slice (some ⟨w.heap.size,0,none⟩) 1 1) (w.alloc (.cells #[.int .i64 z] 3)):=by kernel_rfl
theorem Yk.litI{P:Program}{K:Value→World→Prop}{ρ:Ae}{w:World}{d:Option Tmp}{ty:TypeId}{pos:String}{af:Array Edge}{gd:Option (Nat × Bool)}{t e:TypeId}{x:Operand}{z:Nat}(hx:Ab ρ x=NI z)(hr:∀w:World,(Instr.buildSlice t 1 #[(0, .int .i64 z)]).run P w = .ok (.slice (some ⟨w.heap.size,0,none⟩) 1 1) (w.alloc (.cells #[.int .i64 z] e)))(hk:∀b w',w.heap.size=b→w'.heap[b]? =some (.cells #[.int .i64 z] e (0,0))→Ext w w' →w'.heap.size=b+1→K (.slice (some ⟨b,0,none⟩) 1 1) w'):Yk P K ((execOp (Ab ρ) ⟨d, .buildSlice t 1 #[(0,x)],ty,pos,af,gd⟩).run P w):=Yk.lits (cs:= #[.int .i64 z]) (fun w=>(by simp only[List.map_toArray,List.map_cons,List.map_nil,hx]:_=_).trans (hr w)) hk
theorem Oo:Tryd.prog.underlying 96=some (.map 100 54):=by kernel_rfl
theorem JM:Tryd.prog.underlying 54=some (.slice 3):=by kernel_rfl
theorem Oq(w:World)(v:Value)(l:List UInt8)(hr:RB w v l)(hl:l.length≤1048576):
  Calls Tryd.prog 53 #[v] w fun e w' =>∃b base,e = .returned (.map (some b))∧IX w w' b base 3 (posOf l (l.length-7)):=by
 refine gG (args:= [v]) Tryd.func53 rfl 30 rfl rfl ?_
 have hE:=Ext.refl w
 refine gS (Yk.makeMap (I:=3) fun h w4 an hX6=> ?_)
 have hX6:=(Nc l)▸hX6
 have hE:=hX6.ext
 refine gL (fun(ρ:Ae) (wz:World)=>∃i:Nat,ρ 0=(v:Value)∧ρ 2=((Value.map none):Value)∧ρ 3=(.map (some h):Value)∧ρ 4=(NI i:Value)∧Ext w wz∧IX w wz h (h+1) 3 (posOf l i)∧(i≤l.length-7)∧True) (fun ρ _=>l.length-(intOf (ρ 4)).toNat) ⟨0,rfl,rfl,rfl,rfl,hE,hX6,Nat.zero_le _,trivial⟩ ?_
 clear hX6
 clear hE
 rintro x y ⟨i,m,T2,k,g,hE,hXi,hil,-⟩
 have q4:=g
 refine gS (Yk.bin (xv:=NI i) (yv:=NI 8) g rfl rfl (Ac _ _ _ (by omega)) (gS (Yk.lenRB EX (RB.of (hr.keep hE) m) (gS (Yk.eqI (a:=((i)+(8):Nat)) (b:=(l.length:Nat)) rfl rfl (BU _ _ _ _) ?_)))))
 refine cD rfl (fun h8=> ?_) fun h8=> ?_
 ·have hrl:((l.drop i).take (i+8-i)).length=8:=by rw[List.length_take,List.length_drop];omega
  have hrl8:((l.drop i).take 8).length=8:=by rw[List.length_take,List.length_drop];omega
  refine gS (Yk.bin (xv:=NI i) (yv:=NI 8) g rfl rfl (Ac _ _ _ (by omega)) (gS (Yk.sliceLH (xs:=l) (l:=i) (n:=(i)+(8)) EX M4 m (hr.keep hE) g rfl (by omega) (by omega) fun ao ab ha17=>(gS (Yk.toArr GG (RB.of ab rfl) (l:=(l.drop (i)).take (((i)+(8))-(i))) (n:=8) (by rw[List.length_take,List.length_drop];omega) (by decide) fun ap aq ac=>(gS (Yk.loadPart rfl ac GG rfl (by rw[Lib.byteCells_length,hrl];exact F6) (gS (Yk.alloc Nd fun o ad ar r ae au=> ?_)))))))))
  have c:=Ext.refl y
  have av:=hE.size
  have f:=r;clear r
  have aw:o<ad.heap.size:=by omega
  refine gS (Yk.storeAll (vr (PQ o 0) rfl) (vr (AB ((l.drop (i)).take (((i)+(8))-(i)))) rfl) f (by simp only[List.size_toArray,Lib.byteCells_length,hrl];rfl) (by simp only[List.size_toArray,Lib.byteCells_length,hrl];exact F6) (Ai _) fun af s ag ax=> ?_)
  clear f
  have f:=s;clear s
  have ay:=bl f
  have f:af.heap[o]? =some (.cells (Lib.byteCells ((l.drop i).take 8)).toArray 100 (0,0)):=AE f (by rw[show i+8-i=8 by omega])
  refine gS (Yk.loadAll rfl f GG rfl (by simp only[List.size_toArray,Lib.byteCells_length,hrl8];exact F6) (gS (Yk.litI (z:=i) g (fun w=>Nf _ w) fun p az a0 ah ai a1=> ?_)))
  have hb1i:=ah
  have c:=c.trans ae
  have c:=Aa c ag (Nat.le_trans (Nat.le_refl _) (by omega))
  have c:=c.trans ai
  refine gS (Yk.entry Ok Om Oo Lf k rfl (hXi.keep c) hrl8 fun q t a2 hX46 aj=> ?_)
  have hE:=hE.trans c
  have hE:=hX46.ext
  clear f
  have hb1i:=(Eq.trans (aj.block p (bl hb1i) (by have h1:=hXi.idx.lt;simp;omega)) hb1i)
  refine gS (Yk.extract (vs:= [q,NI t]) rfl rfl (gS (Yk.append _ _ (h+1) 3 (.int .i64 0) 1 8 JM RO rfl (posOf l i ((l.drop i).take 8)).length ((posOf l i ((l.drop i).take 8)).map NI) (BA hX46.own (vr q rfl)) 1 [NI i] (show Src _ _ _ _ _ _ _ from by rw[(vr (.slice (some ⟨p,0,none⟩) 1 1) rfl)];exact(Src.ofSlice _ JM ⟨p,0,none⟩ 1 1 [NI i] rfl (fun j u hu=>by rw[Addr.add_lit,Nat.zero_add];exact cellAt (l:= [NI i]) hb1i hu) (fun u hu=>by rw[List.mem_singleton.1 hu];rfl))) (by have:=posOf_length l i ((l.drop i).take 8);unfold maxLen;omega) (by have:=posOf_length l i ((l.drop i).take 8);omega) hX46.hb fun a3 a4 ak al=> ?_)))
  have hX52:=IXO.grew (zs' :=posOf l i ((l.drop i).take 8)++ [i]) hX46 al (by rw[List.length_append,List.map_append];exact ak)
  have hE:=hX52.ext
  clear hX46
  refine gS (Yk.extract (vs:= [q,NI t]) rfl rfl (gS (Yk.entryStore k rfl rfl hX52 (by simp) fun a5 hX54=> ?_)))
  have hX54:=(Oj l i)▸hX54
  have hE:=hX54.ext
  clear hX52
  refine gS (Yk.bin (xv:=NI i) (yv:=NI 1) g rfl rfl (Ac _ _ _ (by omega)) (gK (And.intro ⟨i+1,m,T2,k,rfl,hE,hX54,by omega,trivial⟩ ?_)))
  show l.length-(intOf (NI ((i)+(1)))).toNat<l.length-(intOf (x 4)).toNat
  rw[q4]
  simp only[intOf,Int.toNat_natCast];omega
 have hik:i=l.length-7:=by omega
 refine Bx rfl k ?_
 rw[hik]at hXi
 exact⟨_,_,rfl,hXi⟩
open Go.RowKit
structure MKD (w0 wI w : World) (lo g3 g5 g7 : Nat) (vt vc v : Value) (o : List UInt8) (fr : Nat) : Prop where
  ext:Ext w0 w
  b3:w.heap[g3]? =some (.cells #[vt] 24 (0,0))
  b5:w.heap[g5]? =some (.cells #[vc] 24 (0,0))
  b7:w.heap[g7]? =some (.cells #[NI fr] 3 (0,0))
  own:w.ownsRow w0.heap.size 5 1 v o.length (Lib.byteCells o)
  fz:∀k,lo≤k→k<wI.heap.size→w.heap[k]? =wI.heap[k]?
  apz:∀k,v.ownBlock=some k→k<lo∨wI.heap.size≤k
  l3:w0.heap.size≤g3
  l5:w0.heap.size≤g5
  l7:w0.heap.size≤g7
  o3:g3<lo
  o5:g5<lo
  o35:g3≠g5
  o7:wI.heap.size≤g7
  oi:lo≤wI.heap.size
  os:wI.heap.size≤w.heap.size
theorem EL{w:World}{b:Nat}{e t:TypeId}{z n g:Nat}{v:Value}{xs:List Value}{cs:Array Value}{fr:Nat × Nat}(ho:w.ownsRow b e z v n xs)(hb:w.heap[g]? =some (.cells cs t fr))(hne:e≠t):v.ownBlock≠some g:=fun h=>by
  rcases ho.2 with ⟨rfl,_⟩ | ⟨g',cap,cur,rfl,_,hg,_⟩
  · cases h
  · have:g' =g:=by simpa [Value.ownBlock] using h
    subst this
    rw[hg]at hb
    simp only[Option.some.injEq,Obj.cells.injEq]at hb
    exact hne hb.2.1
section
variable {w0 wI w w' : World} {lo g3 g5 g7 : Nat} {vt vc v : Value} {o : List UInt8} {fr : Nat}
theorem MKD.keep(h:MKD w0 wI w lo g3 g5 g7 vt vc v o fr)(k:Ext w w'):MKD w0 wI w' lo g3 g5 g7 vt vc v o fr:=
  ⟨h.ext.trans k,Ext.blk' k h.b3,Ext.blk' k h.b5,Ext.blk' k h.b7,Stab.own _ _ _ _ _ _ _ _ h.own k,fun i h1 h2=>(k.block i (Nat.lt_of_lt_of_le h2 h.os)).trans (h.fz i h1 h2),h.apz,h.l3,h.l5,h.l7,h.o3,h.o5,h.o35,h.o7,h.oi,Nat.le_trans h.os k.size⟩
theorem MKD.grew{v' :Value}{o' :List UInt8}(h:MKD w0 wI w lo g3 g5 g7 vt vc v o fr)(gr:Grew w w' v v')(ho:w'.ownsRow w0.heap.size 5 1 v' o'.length (Lib.byteCells o')):MKD w0 wI w' lo g3 g5 g7 vt vc v' o' fr:=
  ⟨Af h.ext gr h.own (Nat.le_refl _),Ak h.b3 gr (EL h.own h.b3 (by decide)),Ak h.b5 gr (EL h.own h.b5 (by decide)),Ak h.b7 gr (EL h.own h.b7 (by decide)),ho,
    fun i h1 h2=>(gr.by_.block i (Nat.lt_of_lt_of_le h2 h.os) (fun e=>by rcases h.apz i e.symm with h3 | h3 <;> omega)).trans (h.fz i h1 h2),
    fun k hk=>(gr.fresh k hk).elim (h.apz k) (fun h3=> .inr (Nat.le_trans h.os h3)),h.l3,h.l5,h.l7,h.o3,h.o5,h.o35,h.o7,h.oi,Nat.le_trans h.os gr.by_.size⟩
theorem MKD.set5(h:MKD w0 wI w lo g3 g5 g7 vt vc v o fr)(hb:w'.heap[g5]? =some (.cells #[v] 24 (0,0)))(hg:w.grownBy w' (some g5)):MKD w0 wI w' lo g3 g5 g7 vt v v o fr:=
  have lt:=fun {k:Nat} {x:Obj} (hx:w.heap[k]? =some x)=>(Array.getElem?_eq_some_iff.1 hx).1
  have h57:g7≠g5:=by have:=h.o5;have:=h.o7;have:=h.oi;omega
  ⟨Below.grown h.ext hg h.ext.size (fun k hk=>by cases hk;exact h.l5),(hg.block g3 (lt h.b3) (by simp[h.o35])).trans h.b3,hb,(hg.block g7 (lt h.b7) (by simp[h57])).trans h.b7,
    AY h.own hg (EL h.own h.b5 (by decide)),fun i h1 h2=>(hg.block i (Nat.lt_of_lt_of_le h2 h.os) (fun e=>by cases e;have:=h.o5;omega)).trans (h.fz i h1 h2),h.apz,h.l3,h.l5,h.l7,h.o3,h.o5,h.o35,h.o7,h.oi,Nat.le_trans h.os hg.size⟩
theorem MKD.set7{n:Nat}(h:MKD w0 wI w lo g3 g5 g7 vt vc v o fr)(hb:w'.heap[g7]? =some (.cells #[NI n] 3 (0,0)))(hg:w.grownBy w' (some g7)):MKD w0 wI w' lo g3 g5 g7 vt vc v o n:=
  have lt:=fun {k:Nat} {x:Obj} (hx:w.heap[k]? =some x)=>(Array.getElem?_eq_some_iff.1 hx).1
  have h57:g5≠g7:=by have:=h.o5;have:=h.o7;have:=h.oi;omega
  have h37:g3≠g7:=by have:=h.o3;have:=h.o7;have:=h.oi;omega
  ⟨Below.grown h.ext hg h.ext.size (fun k hk=>by cases hk;exact h.l7),(hg.block g3 (lt h.b3) (by simp[h37])).trans h.b3,(hg.block g5 (lt h.b5) (by simp[h57])).trans h.b5,hb,
    AY h.own hg (EL h.own h.b7 (by decide)),fun i h1 h2=>(hg.block i (Nat.lt_of_lt_of_le h2 h.os) (fun e=>by cases e;have:=h.o7;omega)).trans (h.fz i h1 h2),h.apz,h.l3,h.l5,h.l7,h.o3,h.o5,h.o35,h.o7,h.oi,Nat.le_trans h.os hg.size⟩
theorem MKD.idx{b base:Nat}{I:TypeId}{G:List UInt8→List Nat}(h:MKD w0 wI w lo g3 g5 g7 vt vc v o fr)(hI:IdxAt wI b base I G)(hb:lo≤b):IdxAt w b base I G:=by
  obtain⟨h1,es,c,h2,h3⟩:=hI
  refine⟨h1,es,c,(h.fz b hb (Array.getElem?_eq_some_iff.1 h2).1).trans h2,h3.born,h3.nodup,h3.keys,fun e he=> ?_,h3.all,h3.apart⟩
  obtain⟨q,k1,k2,k3,k4⟩:=h3.ent e he
  refine⟨q,k1,k2,k3,k4.1,?_⟩
  rcases k4.2 with h5 | ⟨g,cap,cur,a,hbg,hg,r⟩
  · exact .inl h5
  · exact .inr ⟨g,cap,cur,a,hbg,(h.fz g (by omega) (Array.getElem?_eq_some_iff.1 hg).1).trans hg,r⟩
end
def Ca(T:List UInt8)(fr to:Nat)(o:List UInt8):List UInt8:=if fr<to then o++Lib.uvarint (2*(to-fr))++(T.drop fr).take (to-fr)else o
open Go.RowKit
set_option maxRecDepth 100000
theorem IT:(Tryd.prog.info? 24).map (·.size)=some 1:=by kernel_rfl
theorem Or:AA Tryd.prog 52:=fun _ _=>by kernel_rfl
theorem Hj(w0 wI w:World)(lo g3 g5 g7:Nat)(vt v:Value)(o T:List UInt8)(fr to:Nat)(hM:MKD w0 wI w lo g3 g5 g7 vt v v o fr)(hT:RB w0 vt T)(hto:to≤T.length)(hfr:fr≤T.length)(hTl:T.length≤1048576)(hol:o.length≤1073741824):
  Calls Tryd.prog 54 #[NI to,PQ g7 0,PQ g5 0,PQ g3 0] w fun e w' =>e = .returned (.tuple #[])∧∃v',MKD w0 wI w' lo g3 g5 g7 vt v' v' (Ca T fr to o) fr:=by
 have av:w.heap[g3]? =some (.cells ([vt]:List Value).toArray 24 (0,0)):=hM.b3
 have u:w.heap[g5]? =some (.cells ([v]:List Value).toArray 24 (0,0)):=hM.b5
 have q:w.heap[g7]? =some (.cells ([NI (fr)]:List Value).toArray 3 (0,0)):=hM.b7
 have aw:=hT.keep hM.ext
 refine gG (args:= [NI to,PQ g7 0,PQ g5 0,PQ g3 0]) Tryd.func54 rfl 20 rfl rfl (gS (Yk.cell1 PJ rfl rfl (cellAt q rfl) (gS (Yk.eqI (a:=(to:Nat)) (b:=(fr:Nat)) rfl rfl (Av _ _ _ _) ?_))))
 refine cD rfl (fun hc=> ?_) fun hc=> ?_
 ·have ax:=A8 (2*(to-fr)) (by omega)
  refine gS (Yk.cell1 EX rfl rfl (cellAt u rfl) (gS (Yk.cell1 PJ rfl rfl (cellAt q rfl) (gS (Yk.bin (xv:=NI to) (yv:=NI fr) rfl rfl rfl (Ay _ _ _ (by omega) (by omega)) (gS (Yk.bin (xv:=NI 2) (yv:=NI ((to)-(fr))) rfl rfl rfl (A0 _ _ _ (by omega)) (gS (Yk.callA2 Or rfl rfl ((C5 _ w0.heap.size v (o) hM.own hM.ext.size ((2)*((to)-(fr))) (by omega) (by omega)).mono ?_))))))))))
  rintro e g ⟨c,rfl,y,z⟩
  refine⟨_,rfl,?_⟩
  have hM10:=MKD.grew hM z y
  clear hM
  have ay:g.heap[g3]? =some (.cells ([vt]:List Value).toArray 24 (0,0)):=hM10.b3
  have az:g.heap[g5]? =some (.cells ([v]:List Value).toArray 24 (0,0)):=hM10.b5
  have a0:g.heap[g7]? =some (.cells ([NI (fr)]:List Value).toArray 3 (0,0)):=hM10.b7
  have a1:=hT.keep hM10.ext
  refine gS (Yk.storeC (i:=0) (v:=c) rfl rfl hM10.b5 (Nat.le_of_ble_eq_true rfl) IT (BJ hM10.own).1 (BJ hM10.own).2 fun j aa ab a2=> ?_)
  have hM20:=MKD.set5 hM10 aa ab
  clear hM10
  have ac:j.heap[g3]? =some (.cells ([vt]:List Value).toArray 24 (0,0)):=hM20.b3
  have ad:j.heap[g5]? =some (.cells ([c]:List Value).toArray 24 (0,0)):=hM20.b5
  have ae:j.heap[g7]? =some (.cells ([NI (fr)]:List Value).toArray 3 (0,0)):=hM20.b7
  have af:=hT.keep hM20.ext
  refine gR ?_
  refine Ky 5 _ [4] [Is (c),Is (vt),Is (NI fr),Is (NI to),fun x w' =>RB w' x ((T.drop (fr)).take ((to)-(fr))),fun x w' =>MKD w0 wI w' lo g3 g5 g7 vt c x ((o++Lib.uvarint ((2)*((to)-(fr))))++(T.drop (fr)).take ((to)-(fr))) (fr)] (by kernel_rfl) [14,15,16,17,18,19] (by kernel_rfl) (by kernel_rfl) (by kernel_rfl) (by kernel_rfl) (by kernel_rfl) rfl rfl rfl rfl (Rq ⟨(fun _ _ _ h k=>RB.keep h k),trivial⟩) ⟨.inr (Stab.is _), .inr (Stab.is _), .inr (Stab.is _), .inr (Stab.is _), .inl rfl,trivial⟩ ?ag ?hQ1002
  case ag=>
   refine⟨?_,?_,?_,?_,?_,?_,?_,trivial⟩
   ·refine Da (Aj rfl fun σ w1 hC h=> ?_)
    have e2:σ 2=PQ g5 0:=(AI (h 2 (by decide))).trans rfl
    exact Yk.cell1 EX rfl e2 (cellAt (eb hC ad) (show _=some (c:Value)from rfl)) ⟨Ext.refl _,rfl⟩
   ·refine Da (Aj rfl fun σ w1 hC h=> ?_)
    have e3:σ 3=PQ g3 0:=(AI (h 3 (by decide))).trans rfl
    exact Yk.cell1 EX rfl e3 (cellAt (eb hC ac) (show _=some (vt:Value)from rfl)) ⟨Ext.refl _,rfl⟩
   ·refine Da (Aj rfl fun σ w1 hC h=> ?_)
    have e1:σ 1=PQ g7 0:=(AI (h 1 (by decide))).trans rfl
    exact Yk.cell1 PJ rfl e1 (cellAt (eb hC ae) (show _=some (NI fr:Value)from rfl)) ⟨Ext.refl _,rfl⟩
   ·refine Da (Aj rfl fun σ w1 hC h=> ?_)
    have e0:σ 0=NI to:=(AI (h 0 (by decide))).trans rfl
    exact Yk.move e0 ⟨Ext.refl _,rfl⟩
   ·refine Da (Aj rfl fun σ w1 hC h=> ?_)
    have al:=AI (h 15 (by decide))
    have am:=AI (h 16 (by decide))
    have an:=AI (h 17 (by decide))
    exact Yk.sliceLH (xs:=T) (l:=fr) (n:=to) EX M4 rfl (RB.of (af.keep hC) al) am an (by omega) (by omega) fun v hr _=>⟨Ext.refl _,hr⟩
   ·refine Da (Aj rfl fun σ w1 hC h=> ?_)
    have r:=AI (h 14 (by decide))
    have ao:(fun x w' =>RB w' x ((T.drop (fr)).take ((to)-(fr)))) (σ 18) w1:=h 18 (by decide)
    have hM1:=hM20.keep hC
    exact Yk.appendRB _ _ w0.heap.size (.int .u8 0) EX IP rfl EX (o++Lib.uvarint ((2)*((to)-(fr)))) ((T.drop (fr)).take ((to)-(fr))) (BA hM1.own r) ao (by simp only[List.length_append,List.length_take,List.length_drop];omega) hM1.ext.size fun x w2 ho hg=>⟨trivial,MKD.grew hM1 (r▸hg) ho⟩
   ·exact trivial
  intro s ap he hf
  obtain⟨-,-,-,-,-,k19,-⟩:=hf
  obtain⟨T0,T1,T2,T3,-⟩:=he.hold [(0,NI to),(1,PQ g7 0),(2,PQ g5 0),(3,PQ g3 0)] ⟨rfl,rfl,rfl,rfl,trivial⟩ rfl
  clear he
  have k19:(fun x w' =>MKD w0 wI w' lo g3 g5 g7 vt c x ((o++Lib.uvarint ((2)*((to)-(fr))))++(T.drop (fr)).take ((to)-(fr))) (fr)) (s 19) ap:=k19
  obtain⟨m,t⟩:∃v,s 19=v:=⟨_,rfl⟩
  rw[t]at k19
  have f:=k19;clear k19
  refine(Yk.storeC (i:=0) (v:=m) T2 t f.b5 (Nat.le_of_ble_eq_true rfl) IT (BJ f.own).1 (BJ f.own).2 fun p ar au a7=> ?_)
  have hM34:=MKD.set5 f ar au
  clear f
  have a8:p.heap[g3]? =some (.cells ([vt]:List Value).toArray 24 (0,0)):=hM34.b3
  have a9:p.heap[g5]? =some (.cells ([m]:List Value).toArray 24 (0,0)):=hM34.b5
  have ba:p.heap[g7]? =some (.cells ([NI (fr)]:List Value).toArray 3 (0,0)):=hM34.b7
  have bb:=hT.keep hM34.ext
  refine gX (N0 rfl ?_)
  refine⟨rfl,m,?_⟩
  rw[Ca,if_pos hc]
  exact hM34
 refine N0 rfl ?_
 refine⟨rfl,v,?_⟩
 rw[Ca,if_neg (by omega)]
 exact hM
open Go.RowKit
section
variable {P : Program} {K : Value → World → Prop} {ρ : Ae} {w : World} {d : Option Tmp} {ty : TypeId} {pos : String} {af : Array Edge} {gd : Option (Nat × Bool)}
theorem Yk.lenOwn{t e c:TypeId}(ht:P.underlying t=some (.slice c)){x:Operand}{b z n:Nat}{xs:List Value}(h:w.ownsRow b e z (Ab ρ x) n xs)(hk:K (NI n) w):Yk P K ((execOp (Ab ρ) ⟨d, .call ⟨.builtin .len,#[x],#[t]⟩,ty,pos,af,gd⟩).run P w):=by
  rcases h.2 with ⟨a,h0⟩ | ⟨g,cap,cur,a,-⟩
  · subst h0
    exact Yk.lenSl ht a hk
  · exact Yk.lenSl ht a hk
theorem Yk.atOwn{t e c:TypeId}(ht:P.underlying t=some (.slice c))(he:∀w' :World,(sizeOf c).run P w' = .ok 1 w'){x y:Operand}{b:Nat}{xs:List Value}(h:w.ownsRow b e 1 (Ab ρ x) xs.length xs){k:IntKind}{i:Nat}(hy:Ab ρ y = .int k (i:Int))(hi:i<xs.length) 
    (hk:∀v,PCell (xs.getD i undef) v w→K v w):Yk P K ((execOp (Ab ρ) ⟨d, .indexAddr t x y,ty,pos,af,gd⟩).run P w):=by
  rcases h.2 with ⟨a,h0⟩ | ⟨g,cap,cur,a,-⟩
  · omega
  · have hc:=h.cells (g:=g) (by rw[a];rfl) i (xs.getD i undef) (by simp[hi])
    rw[Addr.add_lit]at hc
    exact Yk.atSl ht he a hy hi (hk _ ⟨_,rfl,hc⟩)
end
def D0(B T:List UInt8)(i:Nat)(pn:Nat × Nat)(q:Nat):Nat × Nat:=if pn.2<Cu (B.drop q) (T.drop i)then(q,Cu (B.drop q) (T.drop i))else pn
def BE(B T:List UInt8)(i:Nat):Nat × Nat:=if i+8≤T.length then(posOf B (B.length-7) ((T.drop i).take 8)).foldl (D0 B T i) (0,0)else(0,0)
def CV(B T:List UInt8):Nat→Nat→Nat→List UInt8→List UInt8
  | 0,_,fr,o=>Ca T fr T.length o
  | f+1,i,fr,o=>if i<T.length then(if(BE B T i).2=0 then CV B T f (i+1) fr o
      else CV B T f (i+(BE B T i).2) (i+(BE B T i).2) (Ca T fr i o++Lib.uvarint (2*(BE B T i).2+1)++Lib.uvarint (BE B T i).1))else Ca T fr T.length o
def BK(B T:List UInt8):List UInt8:=CV B T T.length 0 0 (Lib.uvarint B.length++Lib.uvarint T.length)
theorem Ek(T:List UInt8)(fr to:Nat)(o:List UInt8)(ht:to≤1048576):(Ca T fr to o).length≤o.length+(to-fr)+9:=by
  unfold Ca
  split
  · have:=A8 (2*(to-fr)) (by omega)
    simp only[List.length_append,List.length_take,List.length_drop]
    omega
  · omega
theorem FR{α:Type}(f:α→Nat→α)(a:α)(zs:List Nat)(j:Nat)(h:j<zs.length):(zs.take (j+1)).foldl f a=f ((zs.take j).foldl f a) (zs.getD j 0):=by
  rw[List.take_succ_eq_append_getElem h,List.foldl_append]
  simp[h]
theorem QZ(zs:List Nat)(j:Nat)(h:j<zs.length):(zs.map NI).getD j undef=NI (zs.getD j 0):=by simp[h]
theorem Ng{B T:List UInt8}{f i fr:Nat}{o:List UInt8}(h:¬i<T.length):CV B T f i fr o=Ca T fr T.length o:=by
  cases f with
  | zero=>rfl
  | succ f=>rw[CV,if_neg h]
theorem PY{B:List UInt8}{k:Nat}{r:List UInt8}{j:Nat}(h:j<(posOf B k r).length):(posOf B k r).getD j 0<k:=by
  have hm:(posOf B k r).getD j 0∈posOf B k r:=by
    rw[List.getD_eq_getElem?_getD,List.getElem?_eq_getElem h]
    exact List.getElem_mem h
  unfold posOf at hm
  rw[List.mem_filter,List.mem_range]at hm
  exact hm.1
open Go.RowKit
set_option maxRecDepth 100000
theorem Ot{d:Option Tmp}{ty:TypeId}{pos:String}{af:Array Edge}{gd:Option (Nat × Bool)}(σ:Operand→Value)(w:World):(execOp σ ⟨d, .alloc 24,ty,pos,af,gd⟩).run Tryd.prog w = .ok (.value (PQ w.heap.size 0)) (w.alloc (.cells ([.slice none 0 0]:List Value).toArray 24)):=by kernel_rfl
theorem Ou:AA Tryd.prog 53:=fun _ _=>by kernel_rfl
theorem PZ{d:Option Tmp}{ty:TypeId}{pos:String}{af:Array Edge}{gd:Option (Nat × Bool)}(σ:Operand→Value)(w:World):(execOp σ ⟨d, .alloc 3,ty,pos,af,gd⟩).run Tryd.prog w = .ok (.value (PQ w.heap.size 0)) (w.alloc (.cells ([NI 0]).toArray 3)):=by kernel_rfl
theorem Ov:AA Tryd.prog 55:=fun _ _=>by kernel_rfl
theorem Hk:AA Tryd.prog 54:=fun _ _=>by kernel_rfl
theorem P0(w:World)(vb q:Value)(B T:List UInt8)(hrb:RB w vb B)(hrt:RB w q T)(hB:B.length≤1048576)(hTl:T.length≤1048576):
  Calls Tryd.prog 25 #[vb,q] w fun e w' =>∃v',e = .returned v' ∧Ext w w' ∧w'.ownsRow w.heap.size 5 1 v' (BK B T).length (Lib.byteCells (BK B T)):=by
 refine gG (args:= [vb,q]) Tryd.func25 rfl 83 rfl rfl ?_
 have hE:=Ext.refl w
 refine gS (Yk.box1 (vr q rfl) (RB.one (hrt.keep hE)).1 fun c u dq ac ca dr=> ?_)
 have ap:=ac;clear ac
 have ds:c<u.heap.size:=by omega
 have ak:=Ext.refl u
 have hE:=hE.trans ca
 have cb:=hE.size
 have hAS:=ak
 refine gR ?_
 have dt:c<u.heap.size:=(bl ap)
 refine Kz 5 7 _ [2] (fun a b=>Below u.heap.size a b∧∀(g:Nat) (cs:Array Value),a.heap[g]? =some (.cells cs 24 (0,0))→b.heap[g]? =some (.cells cs 24 (0,0))) [Is (vb),Is (NI B.length),fun x w' =>w'.ownsRow u.heap.size 5 1 x (([]:List UInt8)++Lib.uvarint B.length).length (Lib.byteCells (([]:List UInt8)++Lib.uvarint B.length)),Is (q),Is (NI T.length),fun x w' =>w'.ownsRow u.heap.size 5 1 x (([]++Lib.uvarint B.length)++Lib.uvarint T.length).length (Lib.byteCells (([]++Lib.uvarint B.length)++Lib.uvarint T.length)),fun x w' =>∃g:Nat,x=PQ g 0∧u.heap.size≤g∧w'.heap[g]? =some (.cells #[.slice none 0 0] 24 (0,0))] (by kernel_rfl) [15,16,17,18,19,20,5] (by kernel_rfl) (by kernel_rfl) (by kernel_rfl) (by kernel_rfl) rfl rfl rfl (by decide) rfl (JB ⟨(fun _ _ _ h k=>Stab.own _ _ _ _ _ _ _ _ h k),(JB ⟨(fun _ _ _ h k=>Stab.own _ _ _ _ _ _ _ _ h k),(fun _ _ _ ⟨g,h1,h2,h3⟩ k=>⟨g,h1,h2,eb k h3⟩),trivial⟩)⟩) ⟨.inr (Stab.is _), .inr (Stab.is _), .inl rfl, .inr (Stab.is _), .inr (Stab.is _), .inl rfl, .inr ((fun _ _ _ ⟨g,h1,h2,h3⟩ k=>⟨g,h1,h2,k.2 _ _ h3⟩)),trivial⟩ (fun _ _ h k=>Below.trans h k.1) ?cc ?hQ3001
 case cc=>
  refine⟨?_,?_,?_,?_,?_,?_,?_,?_,trivial⟩
  ·refine Da (Aj rfl fun σ w1 hC h=> ?_)
   have e0:σ 0=vb:=(AI (h 0 (by decide))).trans rfl
   exact Yk.move e0 ⟨Ext.refl _,rfl⟩
  ·refine Da (Aj rfl fun σ w1 hC h=> ?_)
   have cd:=AI (h 15 (by decide))
   exact Yk.lenRB EX (RB.of (hrb.keep (hE.trans hC)) cd) ⟨Ext.refl _,rfl⟩
  ·refine Da (Aj rfl fun σ w1 hC h=> ?_)
   have ce:=AI (h 16 (by decide))
   have hC:Ext u w1:=hC
   have al:w1.ownsRow u.heap.size 5 1 (.slice none 0 0) ([]:List UInt8).length (Lib.byteCells ([]:List UInt8)):=World.ownsRow_nil _ _ _ 1
   refine Yk.callA2 Or rfl ce ((C5 w1 u.heap.size (.slice none 0 0) [] al hC.size B.length (by omega) (by simp)).mono ?_)
   rintro e w2 ⟨v',rfl,ho,hg⟩
   exact⟨_,rfl,Ext.of hg.by_,ho⟩
  ·refine Da (Aj rfl fun σ w1 hC h=> ?_)
   have e3:σ 3=PQ c 0:=(AI (h 3 (by decide))).trans rfl
   exact Yk.cell1 EX rfl e3 (cellAt (eb hC ap) (show _=some (q:Value)from rfl)) ⟨Ext.refl _,rfl⟩
  ·refine Da (Aj rfl fun σ w1 hC h=> ?_)
   have cf:=AI (h 18 (by decide))
   exact Yk.lenRB EX (RB.of (hrt.keep (hE.trans hC)) cf) ⟨Ext.refl _,rfl⟩
  ·refine Da (Aj rfl fun σ w1 hC h=> ?_)
   have bb:(fun x w' =>w'.ownsRow u.heap.size 5 1 x (([]:List UInt8)++Lib.uvarint B.length).length (Lib.byteCells (([]:List UInt8)++Lib.uvarint B.length))) (σ 17) w1:=h 17 (by decide)
   have cg:=AI (h 19 (by decide))
   have hC:Ext u w1:=hC
   refine Yk.callA2 Or rfl cg ((C5 w1 u.heap.size (σ 17) (([]:List UInt8)++Lib.uvarint B.length) bb hC.size T.length (by omega) (by have:=A8 B.length (by omega);simp;omega)).mono ?_)
   rintro e w2 ⟨v',rfl,ho,hg⟩
   exact⟨_,rfl,⟨hg.below hC.size (fun k hk=>(World.ownsRow.lt bb k hk).1),fun g cs h=>Ak h hg (EL bb h (by decide))⟩,ho⟩
  ·refine Da (Aj rfl fun σ w1 hC h=> ?_)
   have hC:Ext u w1:=hC
   exact Yk.alloc (cs:=([.slice none 0 0]:List Value).toArray) Ot fun g w2 hn hb hx hs=>⟨hx,g,rfl,by have:=hC.size;omega,hb⟩
  ·exact trivial
 intro a2 bt bu he hf
 obtain⟨-,-,-,-,-,k20,k5,-⟩:=hf
 obtain⟨y,T1,s,T4,-⟩:=he.hold [(0,vb),(1,q),(3,PQ c 0),(4,(Value.slice none 0 0))] ⟨rfl,rfl,rfl,rfl,trivial⟩ rfl
 clear he
 have k20:(fun x w' =>w'.ownsRow u.heap.size 5 1 x (([]++Lib.uvarint B.length)++Lib.uvarint T.length).length (Lib.byteCells (([]++Lib.uvarint B.length)++Lib.uvarint T.length))) (a2 20) bt:=k20
 obtain⟨ay,bv⟩:∃v,a2 20=v:=⟨_,rfl⟩
 rw[bv]at k20
 have am:=k20;clear k20
 have k5:(fun x w' =>∃g:Nat,x=PQ g 0∧u.heap.size≤g∧w'.heap[g]? =some (.cells #[.slice none 0 0] 24 (0,0))) (a2 5) bt:=k5
 obtain⟨du,r⟩:∃v,a2 5=v:=⟨_,rfl⟩
 rw[r]at k5
 have ch:=k5;clear k5
 obtain⟨g5,hv5,hlo5,ac⟩:=ch
 rw[hv5]at r
 have ci:OB ay g5:=EL am ac (by decide)
 refine(Yk.storeC (i:=0) (v:=ay) r bv ac (Nat.le_of_ble_eq_true rfl) IT (BJ am).1 (BJ am).2 fun au bw bc dv=> ?_)
 clear ac
 have ac:=bw;clear bw
 have dw:=bl ac
 refine gX ?_
 have hE:=hE.trans bu
 have hE:=Aa hE bc (Nat.le_trans cb (by omega))
 have ak:=ak.trans bu
 have ak:=Aa ak bc (Nat.le_trans (Nat.le_refl _) (by omega))
 have dx:=hE.size
 have dy:=ak.size
 have ap:=eb ak ap
 have hq3:=(bl ap)
 have hq5:=(bl ac)
 have am:=AY am bc ci
 have hoP:=am
 have hzP:=hE.size
 have hzS:=hAS.size
 refine gS (Yk.callA1 Ou y ((Oq _ vb B (hrb.keep hE) (by omega)).mono ?_))
 rintro e aq ⟨bM,baseM,rfl,hX⟩
 refine⟨_,rfl,?_⟩
 have hzI:=hX.ext.size
 have ar:=Ext.refl aq
 have hE:=hE.trans hX.ext
 have ak:=ak.trans hX.ext
 have cj:=hE.size
 have dz:=ak.size
 refine gS (Yk.alloc PZ fun m ck d0 bx bz d1=> ?_)
 have az:=bx;clear bx
 have d2:m<ck.heap.size:=by omega
 refine gS (Yk.storeC (i:=0) (v:=NI 0) rfl rfl az (Nat.le_of_ble_eq_true rfl) Ld rfl rfl fun cl b0 b1 d3=> ?_)
 clear az
 have az:=b0;clear b0
 have d4:=bl az
 refine gS (Yk.mkFunc (vs:= #[PQ m 0,PQ g5 0,PQ c 0]) (by simp only[List.map_toArray,List.map_cons,List.map_nil];exact congrArg List.toArray (RM (vr (PQ m 0) rfl) r s)) ?_)
 have ar:=ar.trans bz
 have ar:=Aa ar b1 (Nat.le_trans (Nat.le_refl _) (by omega))
 have ap:=eb (hX.ext.trans ar) ap
 have am:=Stab.own _ _ _ _ _ _ _ _ am (hX.ext.trans ar)
 have ac:=eb (hX.ext.trans ar) ac
 have hE:=hE.trans bz
 have hE:=Aa hE b1 (Nat.le_trans cj (by omega))
 have hM0:MKD w aq cl au.heap.size c g5 m q ay ay (([]++Lib.uvarint B.length)++Lib.uvarint T.length) (0):=⟨hE,ap,ac,az,CS am (by omega),fun k h1 h2=>ar.block k h2,fun k hk=> .inl (hoP.lt k hk).2,by omega,by omega,by omega,hq3,hq5,by omega,by omega,by omega,by omega⟩
 have hT:=hrt
 refine gL (fun(ρ:Ae) (wz:World)=>∃ia:Nat,∃fr:Nat,∃f:Nat,∃o:List UInt8,∃v:Value,ρ 0=(vb:Value)∧ρ 1=(q:Value)∧ρ 3=(PQ c 0:Value)∧ρ 4=((Value.slice none 0 0):Value)∧ρ 5=(PQ g5 0:Value)∧ρ 6=(.map (some bM):Value)∧ρ 7=(PQ m 0:Value)∧ρ 8=(.func (.func 54) #[] #[PQ m 0,PQ g5 0,PQ c 0]:Value)∧ρ 9=(NI ia:Value)∧Ext w wz∧MKD w aq wz au.heap.size c g5 m q v v (o) (fr)∧(CV B T f ia fr o=BK B T)∧(T.length≤ia+f)∧(fr≤ia)∧(ia≤T.length)∧(o.length≤20+40*fr)∧True) (fun ρ _=>T.length-(intOf (ρ 9)).toNat) ⟨0,0,T.length,([]++Lib.uvarint B.length)++Lib.uvarint T.length,ay,y,T1,s,T4,r,rfl,rfl,rfl,rfl,hE,hM0,(show CV B T T.length 0 0 _=_ from by rw[BK,List.nil_append]),by omega,Nat.le_refl _,Nat.zero_le _,by have:=A8 B.length (by omega);have:=A8 T.length (by omega);simp only[List.length_append,List.length_nil];omega,trivial⟩ ?_
 clear hM0
 clear hE
 rintro a3 bd ⟨ia,fr,f,o,v,y,T1,s,T4,r,T6,T7,T8,t,hE,hM,hgo,hf,hfr,hat,hol,-⟩
 have q9:=t
 have z:bd.heap[c]? =some (.cells ([q]:List Value).toArray 24 (0,0)):=hM.b3
 have an:bd.heap[g5]? =some (.cells ([v]:List Value).toArray 24 (0,0)):=hM.b5
 have ao:bd.heap[m]? =some (.cells ([NI (fr)]:List Value).toArray 3 (0,0)):=hM.b7
 refine gS (Yk.cell1 EX rfl s (cellAt z rfl) (gS (Yk.lenRB EX (RB.of (hrt.keep hE) rfl) (gS (Yk.eqI (a:=(ia:Nat)) (b:=(T.length:Nat)) t rfl (Ah _ _ _ _) ?_)))))
 refine cD rfl (fun aw=> ?_) fun aw=> ?_
 ·obtain⟨f',rfl⟩:∃f',f=f' +1:=⟨f-1,by omega⟩
  refine gS (Yk.bin (xv:=NI ia) (yv:=NI 8) t rfl rfl (Ac _ _ _ (by omega)) (gS (Yk.cell1 EX rfl s (cellAt z rfl) (gS (Yk.lenRB EX (RB.of (hrt.keep hE) rfl) (gS (Yk.eqI (a:=((ia)+(8):Nat)) (b:=(T.length:Nat)) rfl rfl (BU _ _ _ _) ?_)))))))
  refine cD rfl (fun be=> ?_) fun be=> ?_
  ·have hrl:((T.drop ia).take (ia+8-ia)).length=8:=by rw[List.length_take,List.length_drop];omega
   have hrl8:((T.drop ia).take 8).length=8:=by rw[List.length_take,List.length_drop];omega
   refine gS (Yk.cell1 EX rfl s (cellAt z rfl) (gS (Yk.bin (xv:=NI ia) (yv:=NI 8) t rfl rfl (Ac _ _ _ (by omega)) (gS (Yk.sliceLH (xs:=T) (l:=ia) (n:=(ia)+(8)) EX M4 rfl (hrt.keep hE) t rfl (by omega) (by omega) fun cm ai ha74=>(gS (Yk.toArr GG (RB.of ai rfl) (l:=(T.drop (ia)).take (((ia)+(8))-(ia))) (n:=8) (by rw[List.length_take,List.length_drop];omega) (by decide) fun d5 d6 cn=>(gS (Yk.loadPart rfl (show World.rangeAt _ _ _ (Lib.byteCells ((T.drop ia).take 8))from by simpa only[Nat.add_sub_cancel_left] using cn) GG rfl (by rw[Lib.byteCells_length,hrl8];exact F6) (gS (Yk.look Ok Om Oo Lf T6 rfl (MKD.idx hM hX.idx hX.lo) hrl8 fun b2 ag=>(gS (Yk.lenOwn JM (BA ag rfl) (gL (fun(ρ:Ae) (wz:World)=>∃j:Nat,∃p:Nat,∃n:Nat,ρ 0=(vb:Value)∧ρ 1=(q:Value)∧ρ 3=(PQ c 0:Value)∧ρ 4=((Value.slice none 0 0):Value)∧ρ 5=(PQ g5 0:Value)∧ρ 6=(.map (some bM):Value)∧ρ 7=(PQ m 0:Value)∧ρ 8=(.func (.func 54) #[] #[PQ m 0,PQ g5 0,PQ c 0]:Value)∧ρ 9=(NI ia:Value)∧ρ 41=(b2:Value)∧ρ 42=(NI ((posOf B (B.length-7) ((T.drop ia).take 8)).length):Value)∧ρ 43=(NI j:Value)∧ρ 10=(NI p:Value)∧ρ 11=(NI n:Value)∧Ext w wz∧MKD w aq wz au.heap.size c g5 m q v v (o) (fr)∧wz.heap[c]? =some (.cells ([q]:List Value).toArray 24 (0,0))∧wz.heap[g5]? =some (.cells ([v]:List Value).toArray 24 (0,0))∧wz.heap[m]? =some (.cells ([NI (fr)]:List Value).toArray 3 (0,0))∧RB wz cm ((T.drop (ia)).take (((ia)+(8))-(ia)))∧wz.ownsRow baseM 3 1 b2 (posOf B (B.length-7) ((T.drop ia).take 8)).length ((posOf B (B.length-7) ((T.drop ia).take 8)).map NI)∧(j≤(posOf B (B.length-7) ((T.drop ia).take 8)).length)∧(((posOf B (B.length-7) ((T.drop ia).take 8)).take j).foldl (D0 B T ia) (0,0)=(p,n))∧(p≤B.length)∧(n≤T.length-ia)∧True) (fun ρ _=>(posOf B (B.length-7) ((T.drop ia).take 8)).length-(intOf (ρ 43)).toNat) ⟨0,0,0,y,T1,s,T4,r,T6,T7,T8,t,rfl,rfl,rfl,rfl,rfl,hE,hM,z,an,ao,ai,ag,Nat.zero_le _,rfl,Nat.zero_le _,Nat.zero_le _,trivial⟩ ?_))))))))))))))
   clear hE hM z an ao ai ag
   rintro b4 d7 ⟨j,p,n,y,T1,s,T4,r,T6,T7,T8,t,a0,a1,av,ax,aj,hE,hM,z,an,ao,ai,ag,hjl,hbp,hp,hn,-⟩
   have q43:=av
   refine gS (Yk.eqI (a:=(j:Nat)) (b:=((posOf B (B.length-7) ((T.drop ia).take 8)).length:Nat)) av a1 (Ah _ _ _ _) ?_)
   refine cD rfl (fun hj=> ?_) fun hj=> ?_
   ·have hq:=PY hj
    have hpl:=posOf_length B (B.length-7) ((T.drop ia).take 8)
    refine gS (Yk.atOwn (xs:=(posOf B (B.length-7) ((T.drop ia).take 8)).map NI) JM Gk (by rw[List.length_map];exact BA ag a0) av (by rw[List.length_map];exact hj) fun d8 bf=> ?_)
    rw[QZ _ _ hj]at bf
    refine gS (Yk.loadC PJ rfl (PCell.of bf rfl) ?_)
    clear bf
    refine gR ?_
    refine Gv [Is (vb),Is (NI ((posOf B (B.length-7) ((T.drop ia).take 8)).getD j 0)),fun x w' =>RB w' x (B.drop ((posOf B (B.length-7) ((T.drop ia).take 8)).getD j 0)),Is (q),Is (NI ia),fun x w' =>RB w' x (T.drop (ia)),Is (NI (Cu (B.drop ((posOf B (B.length-7) ((T.drop ia).take 8)).getD j 0)) (T.drop (ia)))),Is (NI (Cu (B.drop ((posOf B (B.length-7) ((T.drop ia).take 8)).getD j 0)) (T.drop (ia))))] (by kernel_rfl) [47,48,49,50,51,52,53,14] (by kernel_rfl) (by kernel_rfl) (JB ⟨(fun _ _ _ h k=>RB.keep h k),(JB ⟨(fun _ _ _ h k=>RB.keep h k),(JB trivial)⟩)⟩) ?co ?hQ4012
    case co=>
     refine⟨?_,?_,?_,?_,?_,?_,?_,?_,trivial⟩
     ·refine Aj rfl fun σ w1 hC h=> ?_
      have e0:=(AI (h 0 (by decide))).trans y
      exact Yk.move e0 ⟨Ext.refl _,rfl⟩
     ·refine Aj rfl fun σ w1 hC h=> ?_
      have cp:σ 13=NI ((posOf B (B.length-7) ((T.drop ia).take 8)).getD j 0):=(AI (h 13 (by decide))).trans rfl
      exact Yk.move cp ⟨Ext.refl _,rfl⟩
     ·refine Aj rfl fun σ w1 hC h=> ?_
      have cq:=AI (h 47 (by decide))
      have cr:=AI (h 48 (by decide))
      exact Yk.sliceLo (xs:=B) (l:=(posOf B (B.length-7) ((T.drop ia).take 8)).getD j 0) EX M4 rfl (RB.of (hrb.keep (hE.trans hC)) cq) cr (by omega) fun v hr _=>⟨Ext.refl _,hr⟩
     ·refine Aj rfl fun σ w1 hC h=> ?_
      have e3:=(AI (h 3 (by decide))).trans s
      exact Yk.cell1 EX rfl e3 (cellAt (eb hC z) (show _=some (q:Value)from rfl)) ⟨Ext.refl _,rfl⟩
     ·refine Aj rfl fun σ w1 hC h=> ?_
      have e9:=(AI (h 9 (by decide))).trans t
      exact Yk.move e9 ⟨Ext.refl _,rfl⟩
     ·refine Aj rfl fun σ w1 hC h=> ?_
      have cu:=AI (h 50 (by decide))
      have cv:=AI (h 51 (by decide))
      exact Yk.sliceLo (xs:=T) (l:=ia) EX M4 rfl (RB.of (hrt.keep (hE.trans hC)) cu) cv (by omega) fun v hr _=>⟨Ext.refl _,hr⟩
     ·refine Aj rfl fun σ w1 hC h=> ?_
      have cw:(fun x w' =>RB w' x (B.drop ((posOf B (B.length-7) ((T.drop ia).take 8)).getD j 0))) (σ 49) w1:=h 49 (by decide)
      have cx:(fun x w' =>RB w' x (T.drop (ia))) (σ 52) w1:=h 52 (by decide)
      refine Yk.callA2 Ov rfl rfl ((Nb _ (σ 49) (σ 52) (B.drop ((posOf B (B.length-7) ((T.drop ia).take 8)).getD j 0)) (T.drop (ia)) cw cx (by simp only[List.length_drop];omega)).mono ?_)
      rintro e w2 ⟨rfl,hx⟩
      exact⟨_,rfl,hx,rfl⟩
     ·refine Aj rfl fun σ w1 hC h=> ?_
      have cy:=AI (h 53 (by decide))
      exact Yk.assign cy ⟨Ext.refl _,rfl⟩
    intro cz c0 ab he hf
    obtain⟨-,-,-,-,-,-,-,k14,-⟩:=hf
    obtain⟨y,T1,s,T4,r,T6,T7,T8,t,ax,aj,c1,a0,a1,av,-⟩:=he.hold [(0,_),(1,_),(3,_),(4,_),(5,_),(6,_),(7,_),(8,_),(9,_),(10,_),(11,_),(13,NI ((posOf B (B.length-7) ((T.drop ia).take 8)).getD j 0)),(41,_),(42,_),(43,_)] ⟨y,T1,s,T4,r,T6,T7,T8,t,ax,aj,rfl,a0,a1,av,trivial⟩ rfl
    clear he
    have hM:MKD w aq c0 au.heap.size c g5 m q v v (o) (fr):=(hM.keep ab)
    have b6:cz 14=NI (Cu (B.drop ((posOf B (B.length-7) ((T.drop ia).take 8)).getD j 0)) (T.drop (ia))):=k14
    clear k14
    refine gX (gS (Yk.eqI (a:=(Cu (B.drop ((posOf B (B.length-7) ((T.drop ia).take 8)).getD j 0)) (T.drop (ia)):Nat)) (b:=(n:Nat)) b6 aj (Av _ _ _ _) ?_))
    refine cD rfl (fun bg=> ?_) fun bg=> ?_
    ·have hE:=hE.trans ab
     have z:=eb ab z
     have an:=eb ab an
     have ao:=eb ab ao
     have ai:=ai.keep ab
     have ag:=Stab.own _ _ _ _ _ _ _ _ ag ab
     refine gS (Yk.bin (xv:=NI j) (yv:=NI 1) av rfl rfl (Ac _ _ _ (by omega)) (gK (And.intro ⟨j+1,(posOf B (B.length-7) ((T.drop ia).take 8)).getD j 0,Cu (B.drop ((posOf B (B.length-7) ((T.drop ia).take 8)).getD j 0)) (T.drop ia),y,T1,s,T4,r,T6,T7,T8,t,a0,a1,rfl,c1,b6,hE,hM,z,an,ao,ai,ag,by omega,by rw[FR _ _ _ _ hj,hbp,D0,if_pos bg],by omega,by have:=(IS (B.drop ((posOf B (B.length-7) ((T.drop ia).take 8)).getD j 0)) (T.drop ia)).2;rw[List.length_drop]at this;omega,trivial⟩ ?_)))
     show(posOf B (B.length-7) ((T.drop ia).take 8)).length-(intOf (NI ((j)+(1)))).toNat<(posOf B (B.length-7) ((T.drop ia).take 8)).length-(intOf (b4 43)).toNat
     rw[q43]
     simp only[intOf,Int.toNat_natCast];omega
    have hE:=hE.trans ab
    have z:=eb ab z
    have an:=eb ab an
    have ao:=eb ab ao
    have ai:=ai.keep ab
    have ag:=Stab.own _ _ _ _ _ _ _ _ ag ab
    refine gS (Yk.bin (xv:=NI j) (yv:=NI 1) av rfl rfl (Ac _ _ _ (by omega)) (gK (And.intro ⟨j+1,p,n,y,T1,s,T4,r,T6,T7,T8,t,a0,a1,rfl,ax,aj,hE,hM,z,an,ao,ai,ag,by omega,by rw[FR _ _ _ _ hj,hbp,D0,if_neg bg],by omega,hn,trivial⟩ ?_)))
    show(posOf B (B.length-7) ((T.drop ia).take 8)).length-(intOf (NI ((j)+(1)))).toNat<(posOf B (B.length-7) ((T.drop ia).take 8)).length-(intOf (b4 43)).toNat
    rw[q43]
    simp only[intOf,Int.toNat_natCast];omega
   rw[show(posOf B (B.length-7) ((T.drop ia).take 8)).take j=posOf B (B.length-7) ((T.drop ia).take 8)from List.take_of_length_le (by omega)]at hbp
   have hbe:BE B T ia=(p,n):=by rw[BE,if_pos be,hbp]
   refine gS (Yk.eqI (a:=(n:Nat)) (b:=(0:Nat)) aj rfl (AO _ _ _ _) ?_)
   refine cD rfl (fun al=> ?_) fun al=> ?_
   ·refine gS (Yk.bin (xv:=NI ia) (yv:=NI 1) t rfl rfl (Ac _ _ _ (by omega)) (gK (And.intro ⟨ia+1,fr,f',o,v,y,T1,s,T4,r,T6,T7,T8,rfl,hE,hM,by rw[CV,if_pos aw,if_pos (by rw[hbe];exact al)]at hgo;exact hgo,by omega,by omega,by omega,hol,trivial⟩ ?_)))
    show T.length-(intOf (NI ((ia)+(1)))).toNat<T.length-(intOf (a3 9)).toNat
    rw[q9]
    simp only[intOf,Int.toNat_natCast];omega
   refine gS (Yk.clo Hk (caps:= #[PQ m 0,PQ g5 0,PQ c 0]) T8 #[NI ia,PQ m 0,PQ g5 0,PQ c 0] (by simp only[List.map_toArray,List.map_cons,List.map_nil,List.append_toArray,List.cons_append,List.nil_append];exact congrArg List.toArray (M1 t rfl rfl rfl)) ((Hj w aq _ (au.heap.size) c g5 m q v (o) T (fr) (ia) hM hT (by omega) (by omega) (by omega) (by omega)).mono ?_))
   rintro e bh ⟨rfl,a4,hM98⟩
   refine⟨_,rfl,?_⟩
   have hE:=hM98.ext
   clear ai
   clear ag
   clear hM
   have d9:bh.heap[c]? =some (.cells ([q]:List Value).toArray 24 (0,0)):=hM98.b3
   have c2:bh.heap[g5]? =some (.cells ([a4]:List Value).toArray 24 (0,0)):=hM98.b5
   have ea:bh.heap[m]? =some (.cells ([NI (fr)]:List Value).toArray 3 (0,0)):=hM98.b7
   have hfl:=Ek T fr ia o (by omega)
   have c3:=A8 (2*n+1) (by omega)
   have c4:=A8 p (by omega)
   refine gS (Yk.cell1 EX rfl r (cellAt c2 rfl) (gS (Yk.bin (xv:=NI 2) (yv:=NI n) rfl aj rfl (A0 _ _ _ (by omega)) (gS (Yk.bin (xv:=NI ((2)*(n))) (yv:=NI 1) rfl rfl rfl (Ac _ _ _ (by omega)) (gS (Yk.callA2 Or rfl rfl ((C5 _ w.heap.size a4 (Ca T (fr) (ia) (o)) hM98.own hM98.ext.size (((2)*(n))+(1)) (by omega) (by first | omega | (simp only[List.length_append];omega))).mono ?_))))))))
   rintro e bi ⟨c5,rfl,c6,c7⟩
   refine⟨_,rfl,?_⟩
   have hM107:=MKD.grew hM98 c7 c6
   have hE:=hM107.ext
   clear hM98
   have ec:bi.heap[c]? =some (.cells ([q]:List Value).toArray 24 (0,0)):=hM107.b3
   have ed:bi.heap[g5]? =some (.cells ([a4]:List Value).toArray 24 (0,0)):=hM107.b5
   have ee:bi.heap[m]? =some (.cells ([NI (fr)]:List Value).toArray 3 (0,0)):=hM107.b7
   refine gS (Yk.callA2 Or rfl ax ((C5 _ w.heap.size c5 (Ca T (fr) (ia) (o)++Lib.uvarint (((2)*(n))+(1))) hM107.own hM107.ext.size (p) (by omega) (by first | omega | (simp only[List.length_append];omega))).mono ?_))
   rintro e bj ⟨a5,rfl,c8,c9⟩
   refine⟨_,rfl,?_⟩
   have hM115:=MKD.grew hM107 c9 c8
   have hE:=hM115.ext
   clear hM107
   have ef:bj.heap[c]? =some (.cells ([q]:List Value).toArray 24 (0,0)):=hM115.b3
   have eg:bj.heap[g5]? =some (.cells ([a4]:List Value).toArray 24 (0,0)):=hM115.b5
   have eh:bj.heap[m]? =some (.cells ([NI (fr)]:List Value).toArray 3 (0,0)):=hM115.b7
   refine gS (Yk.storeC (i:=0) (v:=a5) r rfl hM115.b5 (Nat.le_of_ble_eq_true rfl) IT (BJ hM115.own).1 (BJ hM115.own).2 fun bk da db ei=> ?_)
   have hM124:=MKD.set5 hM115 da db
   have hE:=hM124.ext
   clear hM115
   have ej:bk.heap[c]? =some (.cells ([q]:List Value).toArray 24 (0,0)):=hM124.b3
   have el:bk.heap[g5]? =some (.cells ([a5]:List Value).toArray 24 (0,0)):=hM124.b5
   have em:bk.heap[m]? =some (.cells ([NI (fr)]:List Value).toArray 3 (0,0)):=hM124.b7
   refine gS (Yk.bin (xv:=NI ia) (yv:=NI n) t aj rfl (Ac _ _ _ (by omega)) (gS (Yk.storeC (i:=0) (v:=NI ((ia)+(n))) T7 rfl hM124.b7 (Nat.le_of_ble_eq_true rfl) Ld rfl rfl fun bm dc dd en=> ?_)))
   have hM133:=MKD.set7 (n:=(ia)+(n)) hM124 dc dd
   have hE:=hM133.ext
   clear hM124
   have eo:bm.heap[c]? =some (.cells ([q]:List Value).toArray 24 (0,0)):=hM133.b3
   have ep:bm.heap[g5]? =some (.cells ([a5]:List Value).toArray 24 (0,0)):=hM133.b5
   have eq:bm.heap[m]? =some (.cells ([NI ((ia)+(n))]:List Value).toArray 3 (0,0)):=hM133.b7
   refine gK (And.intro ⟨ia+n,ia+n,f',Ca T (fr) (ia) (o)++Lib.uvarint (((2)*(n))+(1))++Lib.uvarint (p),a5,y,T1,s,T4,r,T6,T7,T8,rfl,hE,hM133,by rw[CV,if_pos aw,if_neg (by rw[hbe];exact al),hbe]at hgo;exact hgo,by omega,by omega,by omega,by have h5:=Ek T fr ia o (by omega);have h6:=A8 (2*n+1) (by omega);have h7:=A8 p (by omega);simp only[List.length_append];omega,trivial⟩ ?_)
   show T.length-(intOf (NI ((ia)+(n)))).toNat<T.length-(intOf (a3 9)).toNat
   rw[q9]
   simp only[intOf,Int.toNat_natCast];omega
  obtain⟨p,b8⟩:∃p,p=0:=⟨_,rfl⟩
  obtain⟨n,hnz⟩:∃n,n=0:=⟨_,rfl⟩
  have ax:=(vr (NI 0) rfl).trans (show(Value.int .i64 ((0:Nat):Int))=NI p by rw[b8])
  have aj:=(vr (NI 0) rfl).trans (show(Value.int .i64 ((0:Nat):Int))=NI n by rw[hnz])
  have hbe:BE B T ia=(p,n):=by rw[BE,if_neg be,b8,hnz]
  have hp:p≤B.length:=by omega
  have hn:n≤T.length-ia:=by omega
  refine gS (Yk.eqI (a:=(n:Nat)) (b:=(0:Nat)) aj rfl (AO _ _ _ _) ?_)
  refine cD rfl (fun al=> ?_) fun al=> ?_
  ·refine gS (Yk.bin (xv:=NI ia) (yv:=NI 1) t rfl rfl (Ac _ _ _ (by omega)) (gK (And.intro ⟨ia+1,fr,f',o,v,y,T1,s,T4,r,T6,T7,T8,rfl,hE,hM,by rw[CV,if_pos aw,if_pos (by rw[hbe];exact al)]at hgo;exact hgo,by omega,by omega,by omega,hol,trivial⟩ ?_)))
   show T.length-(intOf (NI ((ia)+(1)))).toNat<T.length-(intOf (a3 9)).toNat
   rw[q9]
   simp only[intOf,Int.toNat_natCast];omega
  refine gS (Yk.clo Hk (caps:= #[PQ m 0,PQ g5 0,PQ c 0]) T8 #[NI ia,PQ m 0,PQ g5 0,PQ c 0] (by simp only[List.map_toArray,List.map_cons,List.map_nil,List.append_toArray,List.cons_append,List.nil_append];exact congrArg List.toArray (M1 t rfl rfl rfl)) ((Hj w aq _ (au.heap.size) c g5 m q v (o) T (fr) (ia) hM hT (by omega) (by omega) (by omega) (by omega)).mono ?_))
  rintro e bn ⟨rfl,a6,hM142⟩
  refine⟨_,rfl,?_⟩
  have hE:=hM142.ext
  clear hM
  have er:bn.heap[c]? =some (.cells ([q]:List Value).toArray 24 (0,0)):=hM142.b3
  have de:bn.heap[g5]? =some (.cells ([a6]:List Value).toArray 24 (0,0)):=hM142.b5
  have es:bn.heap[m]? =some (.cells ([NI (fr)]:List Value).toArray 3 (0,0)):=hM142.b7
  have hfl:=Ek T fr ia o (by omega)
  have c3:=A8 (2*n+1) (by omega)
  have c4:=A8 p (by omega)
  refine gS (Yk.cell1 EX rfl r (cellAt de rfl) (gS (Yk.bin (xv:=NI 2) (yv:=NI n) rfl aj rfl (A0 _ _ _ (by omega)) (gS (Yk.bin (xv:=NI ((2)*(n))) (yv:=NI 1) rfl rfl rfl (Ac _ _ _ (by omega)) (gS (Yk.callA2 Or rfl rfl ((C5 _ w.heap.size a6 (Ca T (fr) (ia) (o)) hM142.own hM142.ext.size (((2)*(n))+(1)) (by omega) (by first | omega | (simp only[List.length_append];omega))).mono ?_))))))))
  rintro e bo ⟨df,rfl,dg,dh⟩
  refine⟨_,rfl,?_⟩
  have hM151:=MKD.grew hM142 dh dg
  have hE:=hM151.ext
  clear hM142
  have et:bo.heap[c]? =some (.cells ([q]:List Value).toArray 24 (0,0)):=hM151.b3
  have eu:bo.heap[g5]? =some (.cells ([a6]:List Value).toArray 24 (0,0)):=hM151.b5
  have ew:bo.heap[m]? =some (.cells ([NI (fr)]:List Value).toArray 3 (0,0)):=hM151.b7
  refine gS (Yk.callA2 Or rfl ax ((C5 _ w.heap.size df (Ca T (fr) (ia) (o)++Lib.uvarint (((2)*(n))+(1))) hM151.own hM151.ext.size (p) (by omega) (by first | omega | (simp only[List.length_append];omega))).mono ?_))
  rintro e bp ⟨a7,rfl,di,dj⟩
  refine⟨_,rfl,?_⟩
  have hM159:=MKD.grew hM151 dj di
  have hE:=hM159.ext
  clear hM151
  have ex:bp.heap[c]? =some (.cells ([q]:List Value).toArray 24 (0,0)):=hM159.b3
  have ey:bp.heap[g5]? =some (.cells ([a6]:List Value).toArray 24 (0,0)):=hM159.b5
  have ez:bp.heap[m]? =some (.cells ([NI (fr)]:List Value).toArray 3 (0,0)):=hM159.b7
  refine gS (Yk.storeC (i:=0) (v:=a7) r rfl hM159.b5 (Nat.le_of_ble_eq_true rfl) IT (BJ hM159.own).1 (BJ hM159.own).2 fun bq dk dl e1=> ?_)
  have hM168:=MKD.set5 hM159 dk dl
  have hE:=hM168.ext
  clear hM159
  have e2:bq.heap[c]? =some (.cells ([q]:List Value).toArray 24 (0,0)):=hM168.b3
  have e4:bq.heap[g5]? =some (.cells ([a7]:List Value).toArray 24 (0,0)):=hM168.b5
  have e5:bq.heap[m]? =some (.cells ([NI (fr)]:List Value).toArray 3 (0,0)):=hM168.b7
  refine gS (Yk.bin (xv:=NI ia) (yv:=NI n) t aj rfl (Ac _ _ _ (by omega)) (gS (Yk.storeC (i:=0) (v:=NI ((ia)+(n))) T7 rfl hM168.b7 (Nat.le_of_ble_eq_true rfl) Ld rfl rfl fun br dm dn e6=> ?_)))
  have hM177:=MKD.set7 (n:=(ia)+(n)) hM168 dm dn
  have hE:=hM177.ext
  clear hM168
  have e7:br.heap[c]? =some (.cells ([q]:List Value).toArray 24 (0,0)):=hM177.b3
  have e8:br.heap[g5]? =some (.cells ([a7]:List Value).toArray 24 (0,0)):=hM177.b5
  have fa:br.heap[m]? =some (.cells ([NI ((ia)+(n))]:List Value).toArray 3 (0,0)):=hM177.b7
  refine gK (And.intro ⟨ia+n,ia+n,f',Ca T (fr) (ia) (o)++Lib.uvarint (((2)*(n))+(1))++Lib.uvarint (p),a7,y,T1,s,T4,r,T6,T7,T8,rfl,hE,hM177,by rw[CV,if_pos aw,if_neg (by rw[hbe];exact al),hbe]at hgo;exact hgo,by omega,by omega,by omega,by have h5:=Ek T fr ia o (by omega);have h6:=A8 (2*n+1) (by omega);have h7:=A8 p (by omega);simp only[List.length_append];omega,trivial⟩ ?_)
  show T.length-(intOf (NI ((ia)+(n)))).toNat<T.length-(intOf (a3 9)).toNat
  rw[q9]
  simp only[intOf,Int.toNat_natCast];omega
 rw[Ng aw]at hgo
 refine gS (Yk.cell1 EX rfl s (cellAt z rfl) (gS (Yk.lenRB EX (RB.of (hrt.keep hE) rfl) (gS (Yk.clo Hk (caps:= #[PQ m 0,PQ g5 0,PQ c 0]) T8 #[NI T.length,PQ m 0,PQ g5 0,PQ c 0] (by simp only[List.map_toArray,List.map_cons,List.map_nil,List.append_toArray,List.cons_append,List.nil_append];exact congrArg List.toArray (M1 rfl rfl rfl rfl)) ((Hj w aq _ (au.heap.size) c g5 m q v (o) T (fr) (T.length) hM hT (by omega) (by omega) (by omega) (by omega)).mono ?_))))))
 rintro e bs ⟨rfl,b9,hM183⟩
 refine⟨_,rfl,?_⟩
 have hE:=hM183.ext
 clear hM
 have fb:bs.heap[c]? =some (.cells ([q]:List Value).toArray 24 (0,0)):=hM183.b3
 have dp:bs.heap[g5]? =some (.cells ([b9]:List Value).toArray 24 (0,0)):=hM183.b5
 have fc:bs.heap[m]? =some (.cells ([NI (fr)]:List Value).toArray 3 (0,0)):=hM183.b7
 refine gS (Yk.cell1 EX rfl r (cellAt dp rfl) (Bx rfl (vr b9 rfl) ?_))
 rw[hgo]at hM183
 exact⟨_,rfl,hM183.ext,CS hM183.own (Nat.le_refl _)⟩
open Go.RowKit
def Cg(D:List UInt8):Option (Nat × Nat × Nat):=match Ax 0 (D.drop 0)with
  | none=>none
  | some (a,k)=>match Ax 0 (D.drop (0+k))with
    | none=>none
    | some (b,j)=>some (a,b,0+k+j)
def Lg:Option (Nat × Nat × Nat)→Value
  | none=> .tuple #[NI 0,NI 0,NI 0,NI 6]
  | some (a,b,n)=> .tuple #[NI a,NI b,NI n,NI 0]
def CF(F:List UInt8)(p s nx:Nat):Option (List UInt8 × Nat):=if s<1∨F.length<p∨F.length-p<s then none else some ((F.drop p).take s,nx)
def A2(B D:List UInt8)(i:Nat):Option (List UInt8 × Nat):=match Ax 0 (D.drop i)with
  | none=>none
  | some (x,k)=>if x%2=1 then(match Ax 0 (D.drop (i+k))with
    | none=>none
    | some (p,m)=>CF B p (x/2) (i+k+m))else CF D (i+k) (x/2) (i+k+x/2)
def A1(B D:List UInt8)(size:Nat):Nat→Nat→List UInt8→Option (List UInt8)
  | 0,_,_=>none
  | f+1,i,o=>if i<D.length then(match A2 B D i with
    | none=>none
    | some (b,nx)=>if size-o.length<b.length then none else A1 B D size f nx (o++b))else if o.length=size then some o else none
def Au(B D:List UInt8):List UInt8 × Nat:=match Cg D with
  | none=>([],6)
  | some (a,b,n)=>if 262144<b then([],2)else if a≠B.length then([],6)else match A1 B D b (D.length+1) n []with
    | none=>([],6)
    | some o=>(o,0)
theorem Hl{D:List UInt8}{a b n:Nat}(h:Cg D=some (a,b,n)):a<9223372036854775808∧b<9223372036854775808∧n≤D.length:=by
  unfold Cg at h
  split at h
  · cases h
  · rename_i x k hk
    have h1:=Bj (a:=0) (by omega) hk
    split at h
    · cases h
    · rename_i y j hj
      have h2:=Bj (a:=0+k) (by omega) hj
      simp only[Option.some.injEq,Prod.mk.injEq]at h
      obtain⟨rfl,rfl,rfl⟩:=h
      omega
theorem JN{F b:List UInt8}{p s nx n:Nat}(h:CF F p s nx=some (b,n)):1≤s∧p≤F.length∧s≤F.length-p∧b=(F.drop p).take s∧n=nx:=by
  unfold CF at h
  split at h
  · cases h
  · simp only[Option.some.injEq,Prod.mk.injEq]at h
    exact⟨by omega,by omega,by omega,h.1.symm,h.2.symm⟩
theorem Lh{B D b:List UInt8}{i nx:Nat}(hi:i≤D.length)(h:A2 B D i=some (b,nx)):i<nx∧nx≤D.length∧b.length≤B.length+D.length:=by
  unfold A2 at h
  split at h
  · cases h
  · rename_i x k hk
    have h1:=Bj hi hk
    split at h
    · split at h
      · cases h
      · rename_i p m hm
        have h2:=Bj (a:=i+k) (by omega) hm
        obtain⟨c1,c2,c3,rfl,rfl⟩:=JN h
        rw[List.length_take,List.length_drop]
        omega
    · obtain⟨c1,c2,c3,rfl,rfl⟩:=JN h
      rw[List.length_take,List.length_drop]
      omega
open Go.RowKit
set_option maxRecDepth 100000
theorem CG:AA Tryd.prog 63:=fun _ _=>by kernel_rfl
theorem JO(w:World)(v:Value)(D:List UInt8)(hr:RB w v D):
  Calls Tryd.prog 88 #[v] w fun e w' =>e = .returned (Lg (Cg D))∧Ext w w' :=by
 refine gG (args:= [v]) Tryd.func88 rfl 26 rfl rfl ?_
 have hE:=Ext.refl w
 rcases hgxa:Ax 0 (D.drop (0))with _ | ⟨xa,ka⟩
 ·refine gS (Yk.callA2 CG rfl rfl ((KK _ v D (hr.keep hE) (0) (by omega) hgxa).mono ?_))
  rintro e j ⟨rfl,c⟩
  refine⟨_,rfl,?_⟩
  have hE:=hE.trans c
  refine gS (Yk.extract (vs:= [NI 0,NI 0,NI 6]) rfl rfl (gS (Yk.extract (vs:= [NI 0,NI 0,NI 6]) rfl rfl (gS (Yk.extract (vs:= [NI 0,NI 0,NI 6]) rfl rfl (gS (Yk.eqI (a:=(6:Nat)) (b:=(0:Nat)) rfl rfl (AF _ _ _ _) (kT (by decide) (cT rfl (FP (v:= .tuple #[NI 0,NI 0,NI 0,NI 6]) (vs:= [NI 0,NI 0,NI 0,NI 6]) rfl rfl ⟨rfl,rfl,rfl,rfl,trivial⟩ ?_))))))))))
  refine⟨?_,hE⟩
  rw[Cg,hgxa]
  rfl
 have hqxa:=Bj (a:=0) (by omega) hgxa
 rcases hgxb:Ax 0 (D.drop (0+ka))with _ | ⟨xb,kb⟩
 ·refine gS (Yk.callA2 CG rfl rfl ((Hi _ v D (hr.keep hE) (0) (by omega) xa ka hgxa).mono ?_))
  rintro e k ⟨rfl,f⟩
  refine⟨_,rfl,?_⟩
  have hE:=hE.trans f
  refine gS (Yk.extract (vs:= [NI xa,NI ((0)+ka),NI 0]) rfl rfl (gS (Yk.extract (vs:= [NI xa,NI ((0)+ka),NI 0]) rfl rfl (gS (Yk.extract (vs:= [NI xa,NI ((0)+ka),NI 0]) rfl rfl (gS (Yk.eqI (a:=(0:Nat)) (b:=(0:Nat)) rfl rfl (AF _ _ _ _) (kF (by decide) (cF rfl (gS (Yk.callA2 CG rfl rfl ((KK _ v D (hr.keep hE) ((0)+ka) (by omega) hgxb).mono ?_))))))))))))
  rintro e l ⟨rfl,g⟩
  refine⟨_,rfl,?_⟩
  have hE:=hE.trans g
  refine gS (Yk.extract (vs:= [NI 0,NI 0,NI 6]) rfl rfl (gS (Yk.extract (vs:= [NI 0,NI 0,NI 6]) rfl rfl (gS (Yk.extract (vs:= [NI 0,NI 0,NI 6]) rfl rfl (gS (Yk.eqI (a:=(6:Nat)) (b:=(0:Nat)) rfl rfl (AF _ _ _ _) (kT (by decide) (cT rfl (FP (v:= .tuple #[NI 0,NI 0,NI 0,NI 6]) (vs:= [NI 0,NI 0,NI 0,NI 6]) rfl rfl ⟨rfl,rfl,rfl,rfl,trivial⟩ ?_))))))))))
  refine⟨?_,hE⟩
  rw[Cg,hgxa];simp only;rw[hgxb]
  rfl
 have hqxb:=Bj (a:=0+ka) (by omega) hgxb
 refine gS (Yk.callA2 CG rfl rfl ((Hi _ v D (hr.keep hE) (0) (by omega) xa ka hgxa).mono ?_))
 rintro e m ⟨rfl,h⟩
 refine⟨_,rfl,?_⟩
 have hE:=hE.trans h
 refine gS (Yk.extract (vs:= [NI xa,NI ((0)+ka),NI 0]) rfl rfl (gS (Yk.extract (vs:= [NI xa,NI ((0)+ka),NI 0]) rfl rfl (gS (Yk.extract (vs:= [NI xa,NI ((0)+ka),NI 0]) rfl rfl (gS (Yk.eqI (a:=(0:Nat)) (b:=(0:Nat)) rfl rfl (AF _ _ _ _) (kF (by decide) (cF rfl (gS (Yk.callA2 CG rfl rfl ((Hi _ v D (hr.keep hE) ((0)+ka) (by omega) xb kb hgxb).mono ?_))))))))))))
 rintro e n ⟨rfl,i⟩
 refine⟨_,rfl,?_⟩
 have hE:=hE.trans i
 refine gS (Yk.extract (vs:= [NI xb,NI (((0)+ka)+kb),NI 0]) rfl rfl (gS (Yk.extract (vs:= [NI xb,NI (((0)+ka)+kb),NI 0]) rfl rfl (gS (Yk.extract (vs:= [NI xb,NI (((0)+ka)+kb),NI 0]) rfl rfl (gS (Yk.eqI (a:=(0:Nat)) (b:=(0:Nat)) rfl rfl (AF _ _ _ _) (kF (by decide) (cF rfl (FP (v:= .tuple #[NI xa,NI xb,NI (((0)+ka)+kb),NI 0]) (vs:= [NI xa,NI xb,NI (((0)+ka)+kb),NI 0]) rfl rfl ⟨rfl,rfl,rfl,rfl,trivial⟩ ?_))))))))))
 refine⟨?_,hE⟩
 rw[Cg,hgxa];simp only;rw[hgxb]
 rfl

theorem P1(w:World)(v:Value)(D:List UInt8)(hr:RB w v D)(h:Cg D=none):
  Calls Tryd.prog 88 #[v] w fun e w' =>e = .returned (.tuple #[NI 0,NI 0,NI 0,NI 6])∧Ext w w' :=by
 have:=JO w v D hr
 rw[h]at this
 exact this
theorem Ow(w:World)(v:Value)(D:List UInt8)(hr:RB w v D)(a b n:Nat)(h:Cg D=some (a,b,n)):
  Calls Tryd.prog 88 #[v] w fun e w' =>e = .returned (.tuple #[NI a,NI b,NI n,NI 0])∧Ext w w' :=by
 have:=JO w v D hr
 rw[h]at this
 exact this

theorem JP(w:World)(vb v:Value)(B D:List UInt8)(hrb:RB w vb B)(hr:RB w v D)(i:Nat)(hi:i≤D.length)(hB:B.length≤1048576)(hD:D.length≤4611686018427387904):
  Calls Tryd.prog 89 #[vb,v,NI i] w fun e w' =>(match A2 B D i with | none=>e = .returned (.tuple #[.slice none 0 0,NI 0, .bool false]) | some (b,nx)=>∃v',e = .returned (.tuple #[v',NI nx, .bool true])∧RB w' v' b)∧Ext w w' :=by
 refine gG (args:= [vb,v,NI i]) Tryd.func89 rfl 70 rfl rfl ?_
 have hE:=Ext.refl w
 rcases hgx:Ax 0 (D.drop (i))with _ | ⟨x,k⟩
 ·refine gS (Yk.callA2 CG rfl rfl ((KK _ v D (hr.keep hE) (i) (by omega) hgx).mono ?_))
  rintro e y ⟨rfl,o⟩
  refine⟨_,rfl,?_⟩
  refine gS (Yk.extract (vs:= [NI 0,NI 0,NI 6]) rfl rfl (gS (Yk.extract (vs:= [NI 0,NI 0,NI 6]) rfl rfl (gS (Yk.extract (vs:= [NI 0,NI 0,NI 6]) rfl rfl (gS (Yk.eqI (a:=(6:Nat)) (b:=(0:Nat)) rfl rfl (AF _ _ _ _) (kT (by decide) (cT rfl (EB rfl (vr (Value.slice none 0 0) rfl) (vr (NI 0) rfl) (vr (.bool (false)) rfl) ?_))))))))))
  rw[A2,hgx]
  have hE:=hE.trans o
  exact⟨rfl,hE⟩
 have hqx:=Bj (a:=i) (by omega) hgx
 refine gS (Yk.callA2 CG rfl rfl ((Hi _ v D (hr.keep hE) (i) (by omega) x k hgx).mono ?_))
 rintro e z ⟨rfl,g⟩
 refine⟨_,rfl,?_⟩
 refine gS (Yk.extract (vs:= [NI x,NI ((i)+k),NI 0]) rfl rfl (gS (Yk.extract (vs:= [NI x,NI ((i)+k),NI 0]) rfl rfl (gS (Yk.extract (vs:= [NI x,NI ((i)+k),NI 0]) rfl rfl (gS (Yk.eqI (a:=(0:Nat)) (b:=(0:Nat)) rfl rfl (AF _ _ _ _) (kF (by decide) (cF rfl (gS (Yk.bin (xv:=NI x) (yv:=NI 2) rfl rfl rfl (Cn _ _ _ (by omega) (by omega)) (gS (Yk.bin (xv:=NI x) (yv:=NI 2) rfl rfl rfl (CR _ _ _ (by omega)) (gS (Yk.eqI (a:=((x)%(2):Nat)) (b:=(1:Nat)) rfl rfl (AO _ _ _ _) ?_)))))))))))))))
 refine cD rfl (fun hodd=> ?_) fun hodd=> ?_
 ·rcases hgp:Ax 0 (D.drop (i+k))with _ | ⟨p,m⟩
  ·have hE:=hE.trans g
   refine gS (Yk.callA2 CG rfl rfl ((KK _ v D (hr.keep hE) ((i)+k) (by omega) hgp).mono ?_))
   rintro e aa ⟨rfl,q⟩
   refine⟨_,rfl,?_⟩
   refine gS (Yk.extract (vs:= [NI 0,NI 0,NI 6]) rfl rfl (gS (Yk.extract (vs:= [NI 0,NI 0,NI 6]) rfl rfl (gS (Yk.extract (vs:= [NI 0,NI 0,NI 6]) rfl rfl (gS (Yk.eqI (a:=(6:Nat)) (b:=(0:Nat)) rfl rfl (AF _ _ _ _) (kT (by decide) (cT rfl (EB rfl (vr (Value.slice none 0 0) rfl) (vr (NI 0) rfl) (vr (.bool (false)) rfl) ?_))))))))))
   rw[A2,hgx];simp only
   rw[if_pos hodd,hgp]
   have hE:=hE.trans q
   refine⟨?_,hE⟩
   first | rfl | trivial
  have hqp:=Bj (a:=i+k) (by omega) hgp
  have hE:=hE.trans g
  refine gS (Yk.callA2 CG rfl rfl ((Hi _ v D (hr.keep hE) ((i)+k) (by omega) p m hgp).mono ?_))
  rintro e ab ⟨rfl,j⟩
  refine⟨_,rfl,?_⟩
  refine gS (Yk.extract (vs:= [NI p,NI (((i)+k)+m),NI 0]) rfl rfl (gS (Yk.extract (vs:= [NI p,NI (((i)+k)+m),NI 0]) rfl rfl (gS (Yk.extract (vs:= [NI p,NI (((i)+k)+m),NI 0]) rfl rfl (gS (Yk.eqI (a:=(0:Nat)) (b:=(0:Nat)) rfl rfl (AF _ _ _ _) (kF (by decide) (cF rfl ?_)))))))))
  by_cases c:x/2<1
  ·refine gS (Yk.eqI (a:=((x)/(2):Nat)) (b:=(1:Nat)) rfl rfl (Ah _ _ _ _) (kT (c) (gS (Yk.pickT rfl rfl (gS (Yk.pickT rfl rfl (cT rfl (EB rfl (vr (Value.slice none 0 0) rfl) (vr (NI 0) rfl) (vr (.bool (false)) rfl) ?_))))))))
   rw[A2,hgx];simp only
   rw[if_pos hodd,hgp];simp only
   rw[CF,if_pos (by omega)]
   have hE:=hE.trans j
   refine⟨?_,hE⟩
   first | rfl | trivial
  by_cases f:B.length<p
  ·have hE:=hE.trans j
   refine gS (Yk.eqI (a:=((x)/(2):Nat)) (b:=(1:Nat)) rfl rfl (Ah _ _ _ _) (kF (c) (gS (Yk.lenRB EX (RB.of (hrb.keep hE) rfl) (gS (Yk.eqI (a:=(p:Nat)) (b:=(B.length:Nat)) rfl rfl (Av _ _ _ _) (kT (f) (gS (Yk.pickF rfl rfl (gS (Yk.pickT rfl rfl (cT rfl (EB rfl (vr (Value.slice none 0 0) rfl) (vr (NI 0) rfl) (vr (.bool (false)) rfl) ?_)))))))))))))
   rw[A2,hgx];simp only
   rw[if_pos hodd,hgp];simp only
   rw[CF,if_pos (by omega)]
   refine⟨?_,hE⟩
   first | rfl | trivial
  by_cases h:B.length-(p)<x/2
  ·have hE:=hE.trans j
   refine gS (Yk.eqI (a:=((x)/(2):Nat)) (b:=(1:Nat)) rfl rfl (Ah _ _ _ _) (kF (c) (gS (Yk.lenRB EX (RB.of (hrb.keep hE) rfl) (gS (Yk.eqI (a:=(p:Nat)) (b:=(B.length:Nat)) rfl rfl (Av _ _ _ _) (kF (f) (gS (Yk.pickF rfl rfl (gS (Yk.lenRB EX (RB.of (hrb.keep hE) rfl) (gS (Yk.bin (xv:=NI B.length) (yv:=NI p) rfl rfl rfl (Ay _ _ _ (by omega) (by omega)) (gS (Yk.eqI (a:=((x)/(2):Nat)) (b:=((B.length)-(p):Nat)) rfl rfl (Av _ _ _ _) (kT (h) (gS (Yk.pickF rfl rfl (cT rfl (EB rfl (vr (Value.slice none 0 0) rfl) (vr (NI 0) rfl) (vr (.bool (false)) rfl) ?_))))))))))))))))))))
   rw[A2,hgx];simp only
   rw[if_pos hodd,hgp];simp only
   rw[CF,if_pos (by omega)]
   refine⟨?_,hE⟩
   first | rfl | trivial
  have hE:=hE.trans j
  refine gS (Yk.eqI (a:=((x)/(2):Nat)) (b:=(1:Nat)) rfl rfl (Ah _ _ _ _) (kF (c) (gS (Yk.lenRB EX (RB.of (hrb.keep hE) rfl) (gS (Yk.eqI (a:=(p:Nat)) (b:=(B.length:Nat)) rfl rfl (Av _ _ _ _) (kF (f) (gS (Yk.pickF rfl rfl (gS (Yk.lenRB EX (RB.of (hrb.keep hE) rfl) (gS (Yk.bin (xv:=NI B.length) (yv:=NI p) rfl rfl rfl (Ay _ _ _ (by omega) (by omega)) (gS (Yk.eqI (a:=((x)/(2):Nat)) (b:=((B.length)-(p):Nat)) rfl rfl (Av _ _ _ _) (kF (h) (gS (Yk.pickF rfl rfl (cF rfl (gS (Yk.bin (xv:=NI x) (yv:=NI 2) rfl rfl rfl (CR _ _ _ (by omega)) (gS (Yk.eqI (a:=((x)%(2):Nat)) (b:=(0:Nat)) rfl rfl (AO _ _ _ _) (kF (by omega) (cF rfl (gS (Yk.bin (xv:=NI p) (yv:=NI ((x)/(2))) rfl rfl rfl (Ac _ _ _ (by omega)) (gS (Yk.sliceLH (xs:=B) (l:=p) (n:=(p)+((x)/(2))) EX M4 rfl (hrb.keep hE) rfl rfl (by omega) (by omega) fun r s ha44=>(EB rfl (vr r rfl) (vr (NI (((i)+k)+m)) rfl) (vr (.bool (true)) rfl) ?_))))))))))))))))))))))))))))))
  rw[A2,hgx];simp only
  rw[if_pos hodd,hgp];simp only
  rw[CF,if_neg (by omega)]
  refine⟨⟨_,rfl,?_⟩,hE⟩
  simpa only[Nat.add_sub_cancel_left] using s
 by_cases c:x/2<1
 ·refine gS (Yk.eqI (a:=((x)/(2):Nat)) (b:=(1:Nat)) rfl rfl (Ah _ _ _ _) (kT (c) (gS (Yk.pickT rfl rfl (gS (Yk.pickT rfl rfl (cT rfl (EB rfl (vr (Value.slice none 0 0) rfl) (vr (NI 0) rfl) (vr (.bool (false)) rfl) ?_))))))))
  rw[A2,hgx];simp only
  rw[if_neg hodd]
  rw[CF,if_pos (by omega)]
  have hE:=hE.trans g
  refine⟨?_,hE⟩
  first | rfl | trivial
 by_cases f:D.length<i+k
 ·have hE:=hE.trans g
  refine gS (Yk.eqI (a:=((x)/(2):Nat)) (b:=(1:Nat)) rfl rfl (Ah _ _ _ _) (kF (c) (gS (Yk.lenRB EX (RB.of (hr.keep hE) rfl) (gS (Yk.eqI (a:=((i)+k:Nat)) (b:=(D.length:Nat)) rfl rfl (Av _ _ _ _) (kT (f) (gS (Yk.pickF rfl rfl (gS (Yk.pickT rfl rfl (cT rfl (EB rfl (vr (Value.slice none 0 0) rfl) (vr (NI 0) rfl) (vr (.bool (false)) rfl) ?_)))))))))))))
  rw[A2,hgx];simp only
  rw[if_neg hodd]
  rw[CF,if_pos (by omega)]
  refine⟨?_,hE⟩
  first | rfl | trivial
 by_cases h:D.length-(i+k)<x/2
 ·have hE:=hE.trans g
  refine gS (Yk.eqI (a:=((x)/(2):Nat)) (b:=(1:Nat)) rfl rfl (Ah _ _ _ _) (kF (c) (gS (Yk.lenRB EX (RB.of (hr.keep hE) rfl) (gS (Yk.eqI (a:=((i)+k:Nat)) (b:=(D.length:Nat)) rfl rfl (Av _ _ _ _) (kF (f) (gS (Yk.pickF rfl rfl (gS (Yk.lenRB EX (RB.of (hr.keep hE) rfl) (gS (Yk.bin (xv:=NI D.length) (yv:=NI ((i)+k)) rfl rfl rfl (Ay _ _ _ (by omega) (by omega)) (gS (Yk.eqI (a:=((x)/(2):Nat)) (b:=((D.length)-((i)+k):Nat)) rfl rfl (Av _ _ _ _) (kT (h) (gS (Yk.pickF rfl rfl (cT rfl (EB rfl (vr (Value.slice none 0 0) rfl) (vr (NI 0) rfl) (vr (.bool (false)) rfl) ?_))))))))))))))))))))
  rw[A2,hgx];simp only
  rw[if_neg hodd]
  rw[CF,if_pos (by omega)]
  refine⟨?_,hE⟩
  first | rfl | trivial
 have hE:=hE.trans g
 refine gS (Yk.eqI (a:=((x)/(2):Nat)) (b:=(1:Nat)) rfl rfl (Ah _ _ _ _) (kF (c) (gS (Yk.lenRB EX (RB.of (hr.keep hE) rfl) (gS (Yk.eqI (a:=((i)+k:Nat)) (b:=(D.length:Nat)) rfl rfl (Av _ _ _ _) (kF (f) (gS (Yk.pickF rfl rfl (gS (Yk.lenRB EX (RB.of (hr.keep hE) rfl) (gS (Yk.bin (xv:=NI D.length) (yv:=NI ((i)+k)) rfl rfl rfl (Ay _ _ _ (by omega) (by omega)) (gS (Yk.eqI (a:=((x)/(2):Nat)) (b:=((D.length)-((i)+k):Nat)) rfl rfl (Av _ _ _ _) (kF (h) (gS (Yk.pickF rfl rfl (cF rfl (gS (Yk.bin (xv:=NI x) (yv:=NI 2) rfl rfl rfl (CR _ _ _ (by omega)) (gS (Yk.eqI (a:=((x)%(2):Nat)) (b:=(0:Nat)) rfl rfl (AO _ _ _ _) (kT (by omega) (cT rfl (gS (Yk.bin (xv:=NI ((i)+k)) (yv:=NI ((x)/(2))) rfl rfl rfl (Ac _ _ _ (by omega)) (gS (Yk.bin (xv:=NI ((i)+k)) (yv:=NI ((x)/(2))) rfl rfl rfl (Ac _ _ _ (by omega)) (gS (Yk.sliceLH (xs:=D) (l:=(i)+k) (n:=((i)+k)+((x)/(2))) EX M4 rfl (hr.keep hE) rfl rfl (by omega) (by omega) fun t u ha61=>(EB rfl (vr t rfl) (vr (NI (((i)+k)+((x)/(2)))) rfl) (vr (.bool (true)) rfl) ?_))))))))))))))))))))))))))))))))
 rw[A2,hgx];simp only
 rw[if_neg hodd]
 rw[CF,if_neg (by omega)]
 refine⟨⟨_,rfl,?_⟩,hE⟩
 simpa only[Nat.add_sub_cancel_left] using u
open Go.RowKit
set_option maxRecDepth 100000
theorem IU:AA Tryd.prog 88:=fun _ _=>by kernel_rfl
theorem IV:AA Tryd.prog 89:=fun _ _=>by kernel_rfl
theorem P2(w:World)(vb v:Value)(B D:List UInt8)(hrb:RB w vb B)(hr:RB w v D)(i:Nat)(hi:i≤D.length)(hB:B.length≤1048576)(hD:D.length≤4611686018427387904)(h:A2 B D i=none):
  Calls Tryd.prog 89 #[vb,v,NI i] w fun e w' =>e = .returned (.tuple #[.slice none 0 0,NI 0, .bool false])∧Ext w w' :=by
 have:=JP w vb v B D hrb hr i hi hB hD
 rw[h]at this
 exact this
theorem Ox(w:World)(vb v:Value)(B D:List UInt8)(hrb:RB w vb B)(hr:RB w v D)(i:Nat)(hi:i≤D.length)(hB:B.length≤1048576)(hD:D.length≤4611686018427387904)(b:List UInt8)(nx:Nat)(h:A2 B D i=some (b,nx)):
  Calls Tryd.prog 89 #[vb,v,NI i] w fun e w' =>∃v',e = .returned (.tuple #[v',NI nx, .bool true])∧RB w' v' b∧Ext w w' :=by
 have:=JP w vb v B D hrb hr i hi hB hD
 rw[h]at this
 exact this.mono fun e w' ⟨⟨v',h1,h2⟩,h3⟩=>⟨v',h1,h2,h3⟩

theorem Oy(w:World)(vb v:Value)(B D:List UInt8)(hrb:RB w vb B)(hr:RB w v D)(hB:B.length≤1048576)(hD:D.length≤4611686018427387904):
  Calls Tryd.prog 77 #[vb,v] w fun e w' =>∃v',e = .returned (.tuple #[v',NI (Au B D).2])∧RB w' v' (Au B D).1∧Ext w w' :=by
 refine gG (args:= [vb,v]) Tryd.func77 rfl 65 rfl rfl ?_
 have hE:=Ext.refl w
 rcases hsz:Cg D with _ | ⟨sa,sb,sn⟩
 ·refine gS (Yk.callA1 IU rfl ((P1 _ v D (hr.keep hE) hsz).mono ?_))
  rintro e w4 ⟨rfl,z⟩
  refine⟨_,rfl,?_⟩
  refine gS (Yk.extract (vs:= [NI 0,NI 0,NI 0,NI 6]) rfl rfl (gS (Yk.extract (vs:= [NI 0,NI 0,NI 0,NI 6]) rfl rfl (gS (Yk.extract (vs:= [NI 0,NI 0,NI 0,NI 6]) rfl rfl (gS (Yk.extract (vs:= [NI 0,NI 0,NI 0,NI 6]) rfl rfl (gS (Yk.eqI (a:=(6:Nat)) (b:=(0:Nat)) rfl rfl (AF _ _ _ _) (kT (by decide) (cT rfl (BO rfl (vr (Value.slice none 0 0) rfl) (vr (NI 6) rfl) ?_))))))))))))
  have hP:Au B D=([],6):=by rw[Au,hsz]
  rw[hP]
  have hE:=hE.trans z
  exact⟨_,rfl,RB.nil _,hE⟩
 have hsb:=Hl hsz
 refine gS (Yk.callA1 IU rfl ((Ow _ v D (hr.keep hE) sa sb sn hsz).mono ?_))
 rintro e aa ⟨rfl,u⟩
 refine⟨_,rfl,?_⟩
 refine gS (Yk.extract (vs:= [NI sa,NI sb,NI sn,NI 0]) rfl rfl (gS (Yk.extract (vs:= [NI sa,NI sb,NI sn,NI 0]) rfl rfl (gS (Yk.extract (vs:= [NI sa,NI sb,NI sn,NI 0]) rfl rfl (gS (Yk.extract (vs:= [NI sa,NI sb,NI sn,NI 0]) rfl rfl (gS (Yk.eqI (a:=(0:Nat)) (b:=(0:Nat)) rfl rfl (AF _ _ _ _) (kF (by decide) (cF rfl (gS (Yk.eqI (a:=(sb:Nat)) (b:=(262144:Nat)) rfl rfl (Av _ _ _ _) ?_)))))))))))))
 refine cD rfl (fun c=> ?_) fun c=> ?_
 ·refine BO rfl (vr (Value.slice none 0 0) rfl) (vr (NI 2) rfl) ?_
  have hP:Au B D=([],2):=by rw[Au,hsz];simp only;rw[if_pos c]
  rw[hP]
  have hE:=hE.trans u
  exact⟨_,rfl,RB.nil _,hE⟩
 have hE:=hE.trans u
 refine gS (Yk.lenRB EX (RB.of (hrb.keep hE) rfl) (gS (Yk.eqI (a:=(sa:Nat)) (b:=(B.length:Nat)) rfl rfl (AF _ _ _ _) ?_)))
 refine cD rfl (fun g=> ?_) fun g=> ?_
 ·refine BO rfl (vr (Value.slice none 0 0) rfl) (vr (NI 6) rfl) ?_
  have hP:Au B D=([],6):=by rw[Au,hsz];simp only;rw[if_neg c,if_pos g]
  rw[hP]
  exact⟨_,rfl,RB.nil _,hE⟩
 have hoN:w.ownsRow w.heap.size 5 1 (Value.slice none 0 0) ([]:List UInt8).length (Lib.byteCells ([]:List UInt8)):=World.ownsRow_nil _ _ _ 1
 have hoN:aa.ownsRow w.heap.size 5 1 (Value.slice none 0 0) ([]:List UInt8).length (Lib.byteCells ([]:List UInt8)):=World.ownsRow_nil _ _ _ 1
 refine gL (fun(ρ:Ae) (wz:World)=>∃i:Nat,∃f:Nat,∃o:List UInt8,∃vo:Value,ρ 0=(vb:Value)∧ρ 1=(v:Value)∧ρ 6=(NI sa:Value)∧ρ 7=(NI sb:Value)∧ρ 9=(NI 0:Value)∧ρ 21=(.bool (false):Value)∧ρ 8=(NI i:Value)∧ρ 10=(vo:Value)∧Ext w wz∧wz.ownsRow w.heap.size 5 1 vo o.length (Lib.byteCells (o))∧(A1 B D sb f i o=A1 B D sb (D.length+1) sn [])∧(D.length<i+f)∧(i≤D.length)∧(o.length≤sb)∧True) (fun ρ _=>D.length-(intOf (ρ 8)).toNat) ⟨sn,D.length+1,[],(Value.slice none 0 0),rfl,rfl,rfl,rfl,rfl,rfl,rfl,rfl,hE,Bn hoN (rfl),rfl,by omega,by omega,by simp,trivial⟩ ?_
 clear hoN
 clear hE
 rintro ab ak ⟨i,f,o,vo,n,k,T6,p,T9,ae,l,j,hE,ho_vo,hgo,hf,hi,hos,-⟩
 have q8:=l
 have ql10:=Cs ho_vo
 obtain⟨f',rfl⟩:∃f',f=f' +1:=⟨f-1,by omega⟩
 refine gS (Yk.lenRB EX (RB.of (hr.keep hE) k) (gS (Yk.eqI (a:=(i:Nat)) (b:=(D.length:Nat)) l rfl (Ah _ _ _ _) ?_)))
 refine cD rfl (fun h=> ?_) fun h=> ?_
 ·rcases hpc:A2 B D i with _ | ⟨pb,nx⟩
  ·refine gS (Yk.callA3 IV n k l ((P2 _ vb v B D (hrb.keep hE) (hr.keep hE) i (by omega) hB hD hpc).mono ?_))
   rintro e al ⟨rfl,af⟩
   refine⟨_,rfl,?_⟩
   refine gS (Yk.extract (vs:= [(Value.slice none 0 0),NI 0, .bool (false)]) rfl rfl (gS (Yk.extract (vs:= [(Value.slice none 0 0),NI 0, .bool (false)]) rfl rfl (gS (Yk.extract (vs:= [(Value.slice none 0 0),NI 0, .bool (false)]) rfl rfl (gS (Yk.notB rfl (gS (Yk.pickT rfl rfl (cT rfl (BO rfl (vr (Value.slice none 0 0) rfl) (vr (NI 6) rfl) ?_)))))))))))
   rw[A1,if_pos h,hpc]at hgo
   have hP:Au B D=([],6):=by rw[Au,hsz];simp only;rw[if_neg c,if_neg g,←hgo]
   rw[hP]
   have hE:=hE.trans af
   exact⟨_,rfl,RB.nil _,hE⟩
  have hpb:=Lh (by omega) hpc
  refine gS (Yk.callA3 IV n k l ((Ox _ vb v B D (hrb.keep hE) (hr.keep hE) i (by omega) hB hD pb nx hpc).mono ?_))
  rintro e ag ⟨m,rfl,q,r⟩
  refine⟨_,rfl,?_⟩
  have ho_vo:=Stab.own _ _ _ _ _ _ _ _ ho_vo r
  refine gS (Yk.extract (vs:= [m,NI nx, .bool (true)]) rfl rfl (gS (Yk.extract (vs:= [m,NI nx, .bool (true)]) rfl rfl (gS (Yk.extract (vs:= [m,NI nx, .bool (true)]) rfl rfl (gS (Yk.notB rfl (gS (Yk.lenRB EX (RB.of q rfl) (gS (Yk.lenRB EX (RB.of (RB.ofOwn ho_vo) j) (gS (Yk.bin (xv:=NI sb) (yv:=NI o.length) p rfl rfl (Ay _ _ _ (by omega) (by omega)) (gS (Yk.eqI (a:=(pb.length:Nat)) (b:=((sb)-(o.length):Nat)) rfl rfl (Av _ _ _ _) (gS (Yk.pickF rfl rfl ?_)))))))))))))))))
  refine cD rfl (fun s=> ?_) fun s=> ?_
  ·refine BO rfl (vr (Value.slice none 0 0) rfl) (vr (NI 6) rfl) ?_
   rw[A1,if_pos h,hpc]at hgo
   simp only at hgo;rw[if_pos s]at hgo
   have hP:Au B D=([],6):=by rw[Au,hsz];simp only;rw[if_neg c,if_neg g,←hgo]
   rw[hP]
   have hE:=hE.trans r
   exact⟨_,rfl,RB.nil _,hE⟩
  have hE:=hE.trans r
  refine gS (Yk.appendRB _ _ w.heap.size (.int .u8 0) EX IP rfl EX (o) (pb) (BA ho_vo j) (RB.of q (vr m rfl)) (by omega) hE.size fun x ah ai t=> ?_)
  have t:Grew ag ah vo x:= .eqv j t
  have hE:=Af hE t ho_vo (Nat.le_refl _)
  clear q
  clear ho_vo
  refine gK (And.intro ⟨nx,f',o++pb,x,n,k,T6,p,T9,ae,rfl,rfl,hE,Bn ai (rfl),by rw[A1,if_pos h,hpc]at hgo;simp only at hgo;rw[if_neg s]at hgo;exact hgo,by omega,by omega,by rw[List.length_append];omega,trivial⟩ ?_)
  show D.length-(intOf (NI nx)).toNat<D.length-(intOf (ab 8)).toNat
  rw[q8]
  simp only[intOf,Int.toNat_natCast];omega
 refine gS (Yk.lenRB EX (RB.of (RB.ofOwn ho_vo) j) (gS (Yk.eqI (a:=(o.length:Nat)) (b:=(sb:Nat)) rfl p (AF _ _ _ _) ?_)))
 refine cD rfl (fun y=> ?_) fun y=> ?_
 ·refine BO rfl (vr (Value.slice none 0 0) rfl) (vr (NI 6) rfl) ?_
  rw[A1,if_neg h,if_neg y]at hgo
  have hP:Au B D=([],6):=by rw[Au,hsz];simp only;rw[if_neg c,if_neg g,←hgo]
  rw[hP]
  exact⟨_,rfl,RB.nil _,hE⟩
 refine BO rfl j (vr (NI 0) rfl) ?_
 rw[A1,if_neg h,if_pos (by omega)]at hgo
 have hP:Au B D=(o,0):=by rw[Au,hsz];simp only;rw[if_neg c,if_neg g,←hgo]
 rw[hP]
 exact⟨_,rfl,RB.ofOwn ho_vo,hE⟩
open Go.RowKit
theorem Hm(T:List UInt8)(fr to:Nat)(o:List UInt8):∃r,Ca T fr to o=o++r:=by
  unfold Ca
  split
  · exact⟨Lib.uvarint (2*(to-fr))++(T.drop fr).take (to-fr),by rw[List.append_assoc]⟩
  · exact⟨[],by simp⟩
theorem Hn(B T:List UInt8):∀(f i fr:Nat) (o:List UInt8),∃r,CV B T f i fr o=o++r
  | 0,_,fr,o=>Hm T fr T.length o
  | f+1,i,fr,o=>by
    unfold CV
    split
    · split
      · exact Hn B T f _ _ _
      · obtain⟨r,hr⟩:=Hn B T f (i+(BE B T i).2) (i+(BE B T i).2) (Ca T fr i o++Lib.uvarint (2*(BE B T i).2+1)++Lib.uvarint (BE B T i).1)
        obtain⟨q,hq⟩:=Hm T fr i o
        exact⟨q++Lib.uvarint (2*(BE B T i).2+1)++Lib.uvarint (BE B T i).1++r,by rw[hr,hq];simp only[List.append_assoc]⟩
    · exact Hm T fr T.length o
theorem DK(n:Nat)(h:n<9223372036854775808)(r:List UInt8):Ax 0 (Lib.uvarint n++r)=some (n,(Lib.uvarint n).length):=Gj r 8 n 0 (Nat.lt_of_lt_of_le h (by decide)) (by omega) (by omega)
theorem L4(B T:List UInt8)(hB:B.length≤1048576)(hT:T.length≤1048576):Cg (BK B T)=some (B.length,T.length,0+(Lib.uvarint B.length).length+(Lib.uvarint T.length).length):=by
  obtain⟨r,hr⟩:=Hn B T T.length 0 0 (Lib.uvarint B.length++Lib.uvarint T.length)
  have h1:BK B T=Lib.uvarint B.length++(Lib.uvarint T.length++r):=by rw[BK,hr,List.append_assoc]
  unfold Cg
  rw[h1,List.drop_zero,DK _ (by omega)]
  simp only
  rw[Nat.zero_add,List.drop_left,DK _ (by omega)]
open Go.RowKit
theorem MC(B T:List UInt8)(i:Nat)(hi:i≤T.length):∀(zs:List Nat) (pn:Nat × Nat),(∀z∈zs,z≤B.length)→pn.1≤B.length→pn.2≤T.length-i→(zs.foldl (D0 B T i) pn).1≤B.length∧(zs.foldl (D0 B T i) pn).2≤T.length-i
  | [],_,_,h1,h2=>⟨h1,h2⟩
  | z :: zs,pn,hz,h1,h2=>by
    rw[List.foldl_cons]
    refine MC B T i hi zs _ (fun x hx=>hz x (by simp[hx])) ?_ ?_
    · unfold D0
      split
      · exact hz z (by simp)
      · exact h1
    · unfold D0
      split
      · have:=(IS (B.drop z) (T.drop i)).2
        rw[List.length_drop]at this
        exact this
      · exact h2
theorem MD(B T:List UInt8)(i:Nat)(hi:i≤T.length):(BE B T i).1≤B.length∧(BE B T i).2≤T.length-i:=by
  unfold BE
  split
  · refine MC B T i hi _ _ (fun z hz=> ?_) (Nat.zero_le _) (Nat.zero_le _)
    unfold posOf at hz
    rw[List.mem_filter,List.mem_range]at hz
    omega
  · exact⟨Nat.zero_le _,Nat.zero_le _⟩
open Go.RowKit
theorem Li:∀(a b:List UInt8) (n:Nat),n≤Cu a b→a.take n=b.take n
  | _,_,0,_=>by simp
  | [],b,n+1,h=>by simp[Cu]at h
  | a :: u,[],n+1,h=>by simp[Cu]at h
  | a :: u,b :: z,n+1,h=>by
    unfold Cu at h
    split at h
    · rename_i e
      rw[List.take_succ_cons,List.take_succ_cons,e,Li u z n (by omega)]
    · omega
theorem Oz:∀(n:Nat) (a b:List UInt8),n≤a.length→n≤b.length→a.take n=b.take n→n≤Cu a b
  | 0,_,_,_,_,_=>Nat.zero_le _
  | n+1,[],_,h,_,_=>by simp at h
  | n+1,_ :: _,[],_,h,_=>by simp at h
  | n+1,a :: u,b :: z,h1,h2,h=>by
    rw[List.take_succ_cons,List.take_succ_cons]at h
    injection h with c e
    unfold Cu
    rw[if_pos c]
    have:=Oz n u z (by simpa using h1) (by simpa using h2) e
    omega
theorem ME(B T:List UInt8)(i:Nat):∀(zs:List Nat) (pn:Nat × Nat),(pn.2=0∨pn.2=Cu (B.drop pn.1) (T.drop i)∧8≤pn.2)→(∀z∈zs,8≤Cu (B.drop z) (T.drop i))→(zs.foldl (D0 B T i) pn).2=0∨(zs.foldl (D0 B T i) pn).2=Cu (B.drop (zs.foldl (D0 B T i) pn).1) (T.drop i)∧8≤(zs.foldl (D0 B T i) pn).2
  | [],_,h,_=>h
  | z :: zs,pn,h,hz=>by
    rw[List.foldl_cons]
    refine ME B T i zs _ ?_ (fun x hx=>hz x (by simp[hx]))
    unfold D0
    split
    · exact .inr ⟨rfl,hz z (by simp)⟩
    · exact h
theorem MF(B T:List UInt8)(i:Nat)(h:(BE B T i).2≠0):(BE B T i).2=Cu (B.drop (BE B T i).1) (T.drop i)∧8≤(BE B T i).2:=by
  have key:(BE B T i).2=0∨(BE B T i).2=Cu (B.drop (BE B T i).1) (T.drop i)∧8≤(BE B T i).2:=by
    unfold BE
    split
    · rename_i h8
      refine ME B T i _ _ (.inl rfl) (fun z hz=> ?_)
      unfold posOf at hz
      rw[List.mem_filter,List.mem_range]at hz
      have he:=eq_of_beq hz.2
      exact Oz 8 _ _ (by rw[List.length_drop];omega) (by rw[List.length_drop];omega) he
    · exact .inl rfl
  exact key.resolve_left h
def BZ(T:List UInt8)(fr to:Nat):List UInt8:=if fr<to then Lib.uvarint (2*(to-fr))++(T.drop fr).take (to-fr)else []
def El(B T:List UInt8):Nat→Nat→Nat→List UInt8
  | 0,_,fr=>BZ T fr T.length
  | f+1,i,fr=>if i<T.length then(if(BE B T i).2=0 then El B T f (i+1) fr
      else BZ T fr i++(Lib.uvarint (2*(BE B T i).2+1)++(Lib.uvarint (BE B T i).1++El B T f (i+(BE B T i).2) (i+(BE B T i).2))))else BZ T fr T.length
theorem Iw(T:List UInt8)(fr to:Nat)(o:List UInt8):Ca T fr to o=o++BZ T fr to:=by
  unfold Ca BZ
  split
  · rw[List.append_assoc]
  · simp
theorem Ix(B T:List UInt8):∀(f i fr:Nat) (o:List UInt8),CV B T f i fr o=o++El B T f i fr
  | 0,_,fr,o=>Iw T fr T.length o
  | f+1,i,fr,o=>by
    unfold CV El
    split
    · split
      · exact Ix B T f _ _ _
      · rw[Ix B T f,Iw]
        simp only[List.append_assoc]
    · exact Iw T fr T.length o
theorem OA(n:Nat)(h:n<16384):(Lib.uvarint n).length≤2:=Lib.uvarint_length 1 n (by omega)
theorem GH(T:List UInt8)(fr to:Nat)(ht:to≤T.length)(hT:T.length≤5000):(BZ T fr to).length≤2*(to-fr):=by
  unfold BZ
  split
  · have h2:=OA (2*(to-fr)) (by omega)
    rw[List.length_append,List.length_take,List.length_drop]
    by_cases h1:to-fr=1
    · rw[h1,Lib.uvarint_small (by omega)]
      simp
      omega
    · omega
  · simp
theorem Ho(B T:List UInt8)(hB:B.length≤5000)(hT:T.length≤5000):∀(f i fr:Nat),fr≤i→i≤T.length→(El B T f i fr).length≤2*(T.length-fr)
  | 0,i,fr,_,_=>GH T fr T.length (Nat.le_refl _) hT
  | f+1,i,fr,h,hi=>by
    unfold El
    split
    · split
      · exact Ho B T hB hT f (i+1) fr (by omega) (by omega)
      · rename_i h1 hn
        have hb:=MD B T i hi
        have h8:=(MF B T i hn).2
        have ih:=Ho B T hB hT f (i+(BE B T i).2) (i+(BE B T i).2) (Nat.le_refl _) (by omega)
        have hf:=GH T fr i hi hT
        have a:=OA (2*(BE B T i).2+1) (by omega)
        have b:=OA (BE B T i).1 (by omega)
        simp only[List.length_append]
        omega
    · exact GH T fr T.length (Nat.le_refl _) hT
theorem MG(B T:List UInt8):BK B T=Lib.uvarint B.length++Lib.uvarint T.length++El B T T.length 0 0:=Ix B T _ _ _ _
theorem Hp(B T:List UInt8)(hB:B.length≤5000)(hT:T.length≤5000):(BK B T).length≤2*T.length+18:=by
  have:=Ho B T hB hT T.length 0 0 (Nat.le_refl _) (Nat.zero_le _)
  have a:=OA B.length (by omega)
  have b:=OA T.length (by omega)
  rw[MG,List.length_append,List.length_append]
  omega
theorem OC(B pre bs rest:List UInt8)(h1:1≤bs.length)(h2:bs.length≤1048576):A2 B (pre++(Lib.uvarint (2*bs.length)++(bs++rest))) pre.length=some (bs,pre.length+(Lib.uvarint (2*bs.length)).length+bs.length):=by
  unfold A2
  rw[List.drop_left,DK _ (by omega)]
  simp only
  rw[if_neg (by omega),CF,if_neg (by simp only[List.length_append];omega),Nat.mul_div_cancel_left _ (by decide)]
  rw[show pre++(Lib.uvarint (2*bs.length)++(bs++rest))=(pre++Lib.uvarint (2*bs.length))++(bs++rest) by rw[List.append_assoc],←List.length_append,List.drop_left,List.take_left]
theorem Nh(B pre rest:List UInt8)(p n:Nat)(hn:1≤n)(hp:p≤B.length)(hpn:n≤B.length-p)(hB:B.length≤1048576):A2 B (pre++(Lib.uvarint (2*n+1)++(Lib.uvarint p++rest))) pre.length=some ((B.drop p).take n,pre.length+(Lib.uvarint (2*n+1)).length+(Lib.uvarint p).length):=by
  unfold A2
  rw[List.drop_left,DK _ (by omega)]
  simp only
  rw[if_pos (by omega),show pre++(Lib.uvarint (2*n+1)++(Lib.uvarint p++rest))=(pre++Lib.uvarint (2*n+1))++(Lib.uvarint p++rest) by rw[List.append_assoc],←List.length_append,List.drop_left,DK _ (by omega)]
  simp only
  rw[show(2*n+1)/2=n by omega,CF,if_neg (by omega)]
theorem JQ(T:List UInt8)(fr to:Nat)(h:fr≤to):T.take fr++(T.drop fr).take (to-fr)=T.take to:=by
  rw[←List.take_add]
  congr 1
  omega
theorem IW(B T pre rest:List UInt8)(fr to:Nat)(h:fr≤to)(ht:to≤T.length)(hT:T.length≤1048576)(g:Nat)(hg:(BZ T fr to++rest).length<g):∃g',rest.length<g' ∧A1 B (pre++(BZ T fr to++rest)) T.length g pre.length (T.take fr)=A1 B (pre++(BZ T fr to++rest)) T.length g' (pre++BZ T fr to).length (T.take to):=by
  by_cases hlt:fr<to
  · have hl:((T.drop fr).take (to-fr)).length=to-fr:=by rw[List.length_take,List.length_drop];omega
    have hf:BZ T fr to=Lib.uvarint (2*((T.drop fr).take (to-fr)).length)++(T.drop fr).take (to-fr):=by rw[BZ,if_pos hlt,hl]
    have hfl:1≤(BZ T fr to).length:=by rw[hf,List.length_append,hl];omega
    cases g with
    | zero=>omega
    | succ g=>
      refine⟨g,by rw[List.length_append]at hg;omega,?_⟩
      rw[A1,if_pos (by simp only[List.length_append];omega)]
      have hp:=OC B pre ((T.drop fr).take (to-fr)) rest (by omega) (by omega)
      rw[show pre++(BZ T fr to++rest)=pre++(Lib.uvarint (2*((T.drop fr).take (to-fr)).length)++((T.drop fr).take (to-fr)++rest)) by rw[hf,List.append_assoc],hp]
      simp only
      rw[if_neg (by rw[hl,List.length_take];omega),JQ T fr to h]
      congr 1
      rw[hf]
      simp only[List.length_append]
      omega
  · have he:fr=to:=by omega
    subst he
    have hf:BZ T fr fr= []:=by rw[BZ,if_neg (by omega)]
    rw[hf]at hg ⊢
    exact⟨g,by simpa using hg,by simp⟩
theorem L5(B D T:List UInt8)(g:Nat)(hg:0<g):A1 B D T.length g D.length (T.take T.length)=some T:=by
  cases g with
  | zero=>omega
  | succ g=>rw[A1,if_neg (by omega),List.take_length,if_pos rfl]
theorem JR(B T pre:List UInt8)(fr:Nat)(h:fr≤T.length)(hT:T.length≤1048576)(g:Nat)(hg:(BZ T fr T.length).length<g):A1 B (pre++BZ T fr T.length) T.length g pre.length (T.take fr)=some T:=by
  obtain⟨g',h1,h2⟩:=IW B T pre [] fr T.length h (Nat.le_refl _) hT g (by simpa using hg)
  rw[List.append_nil]at h2
  rw[h2]
  exact L5 B _ T g' (by omega)
theorem Hq(B T:List UInt8)(hB:B.length≤1048576)(hT:T.length≤1048576):∀(f i fr:Nat) (pre:List UInt8) (g:Nat),fr≤i→i≤T.length→(El B T f i fr).length<g→A1 B (pre++El B T f i fr) T.length g pre.length (T.take fr)=some T
  | 0,i,fr,pre,g,h1,h2,hg=>JR B T pre fr (by omega) hT g hg
  | f+1,i,fr,pre,g,h1,h2,hg=>by
    unfold El at hg ⊢
    split
    · rename_i hi
      rw[if_pos hi]at hg
      split
      · rename_i hn
        rw[if_pos hn]at hg
        exact Hq B T hB hT f (i+1) fr pre g (by omega) (by omega) hg
      · rename_i hn
        rw[if_neg hn]at hg
        have hb:=MD B T i h2
        have hs:=MF B T i hn
        generalize BE B T i=pn at *
        obtain⟨p,n⟩:=pn
        simp only at hn hb hs hg ⊢
        have hpn:=(IS (B.drop p) (T.drop i)).1
        rw[List.length_drop]at hpn
        obtain⟨g',h3,h4⟩:=IW B T pre (Lib.uvarint (2*n+1)++(Lib.uvarint p++El B T f (i+n) (i+n))) fr i h1 h2 hT g hg
        rw[h4]
        have hu:=Lib.uvarint_pos (2*n+1)
        cases g' with
        | zero=>omega
        | succ g' =>
          rw[←List.append_assoc pre,A1,if_pos (by simp only[List.length_append];omega),Nh B (pre++BZ T fr i) _ p n (by omega) hb.1 (by omega) hB]
          simp only
          have hl:((B.drop p).take n).length=n:=by rw[List.length_take,List.length_drop];omega
          rw[if_neg (by rw[hl,List.length_take];omega),Li (B.drop p) (T.drop i) n (by omega)]
          have ht:T.take i++(T.drop i).take n=T.take (i+n):=by
            have:=JQ T i (i+n) (by omega)
            rwa [Nat.add_sub_cancel_left]at this
          rw[ht]
          have ih:=Hq B T hB hT f (i+n) (i+n) (pre++BZ T fr i++Lib.uvarint (2*n+1)++Lib.uvarint p) g' (Nat.le_refl _) (by omega) (by simp only[List.length_append]at h3;omega)
          rw[←ih]
          simp only[List.append_assoc,List.length_append,Nat.add_assoc]
    · rename_i hi
      rw[if_neg hi]at hg
      exact JR B T pre fr (by omega) hT g hg
theorem Ni(B T:List UInt8)(hB:B.length≤5000)(hT:T.length≤5000):Au B (BK B T)=(T,0):=by
  unfold Au
  rw[L4 B T (by omega) (by omega)]
  simp only
  rw[if_neg (by omega),if_neg (by simp),MG,Nat.zero_add,←List.length_append]
  have:=Hq B T (by omega) (by omega) T.length 0 0 (Lib.uvarint B.length++Lib.uvarint T.length) ((Lib.uvarint B.length++Lib.uvarint T.length++El B T T.length 0 0).length+1) (Nat.le_refl _) (Nat.zero_le _) (by simp only[List.length_append];omega)
  rw[List.take_zero]at this
  rw[this]
open Go.RowKit
theorem Sha.be64_take(n i:Nat)(h:i<8):(Sha.be64 n).take (i+1)=(Sha.be64 n).take i++ [UInt8.ofNat (n/2^(56-8*i))]:=by
 unfold Sha.be64
 rw[List.take_succ_eq_append_getElem (by simp;omega)]
 simp
theorem Nj(w:World):(Instr.buildSlice 24 0 #[]).run Tryd.prog w = .ok (.slice (some ⟨w.heap.size,0,none⟩) 0 0) (w.alloc (.cells #[] 5)):=by kernel_rfl
theorem JS:Tryd.prog.underlying 95=some (.int .u64):=by kernel_rfl
set_option maxRecDepth 100000
theorem Dw(w:World)(x:UInt32)(n:Nat)(h0:0<n)(h1:n<32):
  Calls Tryd.prog 46 #[U x, .int .u64 (n:Int)] w fun e w' =>e = .returned (U (Sha.rotr x n))∧Ext w w' :=by
 refine gG (args:= [U (x), .int .u64 ((n:Nat):Int)]) Tryd.func46 rfl 13 rfl rfl ?_
 have hE:=Ext.refl w
 refine gS (Yk.bin (yv:= .int .u64 ((n:Nat):Int)) rfl rfl rfl (Ei _ _ _ (n) (by omega)) (gS (Yk.bin (xv:= .int .u64 ((32:Nat):Int)) (yv:= .int .u64 ((n:Nat):Int)) rfl rfl rfl (Mt _ _ _ (by omega) (by omega)) (gS (Yk.bin (yv:= .int .u64 (((32)-(n):Nat):Int)) rfl rfl rfl (FO _ _ _ ((32)-(n)) (by omega)) (gS (Yk.bin rfl rfl rfl (Ha _ _ _) (Bx rfl (vr (U (((x)>>>UInt32.ofNat (n))|||((x)<<<UInt32.ofNat ((32)-(n))))) rfl) ?_))))))))
 exact⟨by unfold Sha.rotr;rw[UInt32.or_comm],hE⟩

theorem Q0(w:World)(t:Nat)(ht:t<64):
  Calls Tryd.prog 47 #[NI t] w fun e w' =>e = .returned (U (Sha.words.getD t 0))∧Ext w w' :=by
 refine gG (args:= [NI t]) Tryd.func47 rfl 8 rfl rfl ?_
 have hE:=Ext.refl w
 refine gS (Yk.run (v:= .agg (Sha.words.map fun x=>U x).toArray) (by kernel_rfl) (gS (Yk.alloc JH fun b g k c h l=> ?_)))
 have a:=c;clear c
 have m:b<g.heap.size:=by omega
 refine gS (Yk.storeAll (vr (PQ b 0) rfl) (vr (.agg (Sha.words.map fun x=>U x).toArray) rfl) a (rfl) (GC) (Dj _) fun n f j o=> ?_)
 clear a
 have a:=f;clear f
 have p:=bl a
 refine gS (Yk.atArr0 (i:=t) CK AM rfl rfl (by omega) (gS (Yk.cell1 AL rfl rfl (cellAt a (AD (i:=t) (by show _<64;omega))) (Bx rfl (vr (U ((Sha.words).getD (t) 0)) rfl) ?_))))
 have hE:=hE.trans h
 have hE:=Aa hE j (Nat.le_trans (Nat.le_refl _) (by omega))
 exact⟨rfl,hE⟩

theorem Nk(w:World)(v:Value)(l:List UInt8)(hr:RB w v l)(hl:l.length≤70368744177664):
  Calls Tryd.prog 45 #[v] w fun e w' =>∃v',e = .returned v' ∧NewB 5 w w' v' (l++Sha.tail l.length):=by
 refine gG (args:= [v]) Tryd.func45 rfl 38 rfl rfl ?_
 have hE:=Ext.refl w
 refine gS (Yk.lit0 Nj fun c w4 af=> ?_)
 have z:=af.own
 have hE:=hE.trans af.ext
 refine gS (Yk.appendRB _ _ w.heap.size (.int .u8 0) EX IP rfl EX (([]:List UInt8)) (l) (BA z (vr c rfl)) (RB.of (hr.keep hE) (vr v rfl)) (by simp;omega) hE.size fun n w8 h aa=> ?_)
 have aa:Grew w4 w8 c n:=aa
 have hE:=Af hE aa z (Nat.le_refl _)
 clear z
 refine gS (Yk.lit1 (b:=128) Od (vr (B8 (128)) rfl) fun ag ar o=> ?_)
 have a6:=hE.size
 have au:Am n ag:=B3 h o.own
 have p:=o.own
 have hE:=hE.trans o.ext
 have h:=Stab.own _ _ _ _ _ _ _ _ h o.ext
 refine gS (Yk.appendRB _ _ w.heap.size (.int .u8 0) EX IP rfl EX (([]:List UInt8)++l) ([(128:UInt8)]) (BA h (vr n rfl)) (RB.of (RB.ofOwn p) (vr ag rfl)) (by simp;omega) hE.size fun ah av ai q=> ?_)
 have q:Grew ar av n ah:=q
 have hE:=Af hE q h (Nat.le_refl _)
 have p:=B7 p q au
 clear h
 refine gL (fun(ρ:Ae) (wz:World)=>∃k:Nat,∃c:Value,ρ 0=(v:Value)∧ρ 2=((Value.slice none 0 0):Value)∧ρ 3=(c:Value)∧Ext w wz∧wz.ownsRow w.heap.size 5 1 c (l++128 :: List.replicate k 0:List UInt8).length (Lib.byteCells (l++128 :: List.replicate k 0))∧(k≤(119-l.length%64)%64)∧True) (fun ρ _=>l.length+65-Be (ρ 3)) ⟨0,ah,rfl,rfl,rfl,hE,Bn ai (by simp),Nat.zero_le _,trivial⟩ ?_
 clear p
 clear ai
 clear hE
 rintro aw ax ⟨k,c,j,r,f,hE,ho_v3,hk,-⟩
 have q3:=f
 have ql3:=Cs ho_v3
 refine gS (Yk.lenRB EX (RB.of (RB.ofOwn ho_v3) f) (gS (Yk.bin (xv:=NI ((l++128 :: List.replicate k 0:List UInt8).length)) (yv:=NI 64) rfl rfl rfl (CR _ _ _ (by omega)) (gS (Yk.eqI (a:=(((l++128 :: List.replicate k 0:List UInt8).length)%(64):Nat)) (b:=(56:Nat)) rfl rfl (AF _ _ _ _) ?_)))))
 refine cD rfl (fun ab=> ?_) fun ab=> ?_
 ·refine gS (Yk.lit1 (b:=0) Od (vr (B8 (0)) rfl) fun aj ay s=> ?_)
  have a7:=hE.size
  have az:Am c aj:=B3 ho_v3 s.own
  have ac:=s.own
  have hE:=hE.trans s.ext
  have ho_v3:=Stab.own _ _ _ _ _ _ _ _ ho_v3 s.ext
  refine gS (Yk.appendRB _ _ w.heap.size (.int .u8 0) EX IP rfl EX (l++128 :: List.replicate k 0) ([(0:UInt8)]) (BA ho_v3 f) (RB.of (RB.ofOwn ac) (vr aj rfl)) (by simp;omega) hE.size fun ad a0 ak t=> ?_)
  have t:Grew ay a0 c ad:= .eqv f t
  have hE:=Af hE t ho_v3 (Nat.le_refl _)
  have ac:=B7 ac t az
  clear ho_v3
  refine gK (And.intro ⟨k+1,ad,j,r,rfl,hE,Bn ak (by simp[List.replicate_succ']),by simp at ab;omega,trivial⟩ ?_)
  show l.length+65-Be (ad)<l.length+65-Be (aw 3)
  rw[q3]
  have qn:=Cs ak
  rw[qn,ql3]
  simp
  omega
 refine gS (Yk.lenRB EX (RB.of (hr.keep hE) j) (gS (Yk.convI PJ JS rfl (Fs (l.length) (by omega)) (gS (Yk.bin (xv:= .int .u64 ((l.length:Nat):Int)) (yv:= .int .u64 ((8:Nat):Int)) rfl rfl rfl (Ms _ _ _ (by omega)) ?_)))))
 obtain⟨Z,hZ⟩:∃Z,Z=l++128 :: List.replicate k 0:=⟨_,rfl⟩
 have ho_v3:ax.ownsRow w.heap.size 5 1 c (Z:List UInt8).length (Lib.byteCells (Z)):=(hZ.symm:l++128 :: List.replicate k 0=Z)▸ho_v3
 have hZl:Z.length=l.length+1+k:=by rw[hZ];simp;omega
 refine gL (fun(ρ:Ae) (wz:World)=>∃i:Nat,∃m:Value,ρ 0=(v:Value)∧ρ 2=((Value.slice none 0 0):Value)∧ρ 4=(.int .u64 (((l.length)*(8):Nat):Int):Value)∧ρ 5=(NI i:Value)∧ρ 3=(m:Value)∧Ext w wz∧wz.ownsRow w.heap.size 5 1 m (Z++(Sha.be64 (8*l.length)).take i:List UInt8).length (Lib.byteCells (Z++(Sha.be64 (8*l.length)).take i))∧(i≤8)∧True) (fun ρ _=>8-(intOf (ρ 5)).toNat) ⟨0,c,j,r,rfl,rfl,f,hE,Bn ho_v3 (by simp),by omega,trivial⟩ ?_
 clear ho_v3
 clear hE
 rintro a1 a8 ⟨i,m,j,r,T4,u,f,hE,g,hi,-⟩
 have q5:=u
 have ql3:=Cs g
 refine gS (Yk.eqI (a:=(i:Nat)) (b:=(8:Nat)) u rfl (Ah _ _ _ _) ?_)
 refine cD rfl (fun am=> ?_) fun am=> ?_
 ·refine gS (Yk.bin (xv:=NI 8) (yv:=NI i) rfl u rfl (A0 _ _ _ (by omega)) (gS (Yk.bin (xv:=NI 56) (yv:=NI ((8)*(i))) rfl rfl rfl (Ay _ _ _ (by omega) (by omega)) (gS (Yk.convI PJ N4 rfl (Fs ((56)-((8)*(i))) (by omega)) (gS (Yk.bin (xv:= .int .u64 (((l.length)*(8):Nat):Int)) (yv:= .int .u64 (((56)-((8)*(i)):Nat):Int)) T4 rfl rfl (Mu _ _ _ _ (by omega)) (gS (Yk.convI JS u5 rfl (D9 (((l.length)*(8))/2^((56)-((8)*(i))))) (gS (Yk.lit1 (b:=UInt8.ofNat (((l.length)*(8))/2^((56)-((8)*(i))))) Od (vr (B8 (UInt8.ofNat (((l.length)*(8))/2^((56)-((8)*(i)))))) rfl) fun an a2 x=> ?_)))))))))))
  have a9:=hE.size
  have a3:Am m an:=B3 g x.own
  have ae:=x.own
  have hE:=hE.trans x.ext
  have g:=Stab.own _ _ _ _ _ _ _ _ g x.ext
  refine gS (Yk.appendRB _ _ w.heap.size (.int .u8 0) EX IP rfl EX (Z++(Sha.be64 (8*l.length)).take i) ([(UInt8.ofNat (((l.length)*(8))/2^((56)-((8)*(i)))):UInt8)]) (BA g f) (RB.of (RB.ofOwn ae) (vr an rfl)) (by simp[Sha.be64];omega) hE.size fun ao a4 a5 y=> ?_)
  have y:Grew a2 a4 m ao:= .eqv f y
  have hE:=Af hE y g (Nat.le_refl _)
  have ae:=B7 ae y a3
  clear g
  refine gS (Yk.bin (xv:=NI i) (yv:=NI 1) u rfl rfl (Ac _ _ _ (by omega)) (gK (And.intro ⟨i+1,ao,j,r,T4,rfl,rfl,hE,Bn a5 (by rw[Sha.be64_take _ _ am,List.append_assoc,Nat.mul_comm l.length 8]),by omega,trivial⟩ ?_)))
  show 8-(intOf (NI ((i)+(1)))).toNat<8-(intOf (a1 5)).toNat
  rw[q5]
  simp only[intOf,Int.toNat_natCast];omega
 refine Bx rfl f ?_
 exact⟨_,rfl,Bn g (by simp at ab;rw[hZ,show i=8 by omega,show k=(119-l.length%64)%64 by omega,List.take_of_length_le (by simp[Sha.be64])];simp[Sha.tail]),Ext.grown hE⟩
open Go.RowKit
set_option maxRecDepth 100000
def HashAt(w:World)(g:Nat)(p:List UInt8):Prop:=∃s r,Sha.At p s r∧w.heap[g]? =some (.cells (hashL s r (p.length%64) p.length).toArray 125 (0,0))
theorem HashAt.keep{w w' :World}{g:Nat}{p:List UInt8}(h:HashAt w g p)(k:Ext w w'):HashAt w' g p:=by
  obtain⟨s,r,h1,h2⟩:=h
  exact⟨s,r,h1,eb k h2⟩
theorem sha6_ty76:Tryd.prog.underlying 76=some (.pointer 125):=by kernel_rfl
theorem sha6_fo125_3:A6 Tryd.prog 125 3 73:=fun b o w=>by simp[go_sem]
theorem Hr:A6 Tryd.prog 125 1 8:=fun b o w=>by simp[go_sem]
theorem DL:A6 Tryd.prog 125 2 72:=fun b o w=>by simp[go_sem]
theorem IY:Tryd.prog.underlying 123=some (.array 64 5):=by kernel_rfl
theorem Hs:A6 Tryd.prog 125 0 0:=fun b o w=>by simp[go_sem]
theorem OD:AA Tryd.prog 69:=fun _ _=>by kernel_rfl
theorem Q1(w:World)(hG:Laid w):
    Calls Tryd.prog 38 #[] w fun e w' =>∃g,e = .returned (PQ g 0)∧w.heap.size≤g∧HashAt w' g []∧Ext w w' :=by
  obtain⟨tF,fF,hF0⟩:=hG.first
  refine gG (args:= []) Tryd.func38 rfl 4 rfl rfl ?_
  have hE:=Ext.refl w
  refine gS (Yk.loadAll rfl (eb hE hF0) AV rfl DY (gS (Yk.run (v:= .agg (hashL Sha.first (List.replicate 64 0) 0 0).toArray) (by kernel_rfl) (gS (Yk.box (vr (.agg (hashL Sha.first (List.replicate 64 0) 0 0).toArray) rfl) fun a c i b f j=> ?_)))))
  have h:=b;clear b
  have k:a<c.heap.size:=by omega
  refine Bx rfl (vr (PQ a 0) rfl) ?_
  have hE:=hE.trans f
  exact⟨_,rfl,by omega,⟨_,_,Sha.at_nil,h⟩,hE⟩

theorem JT(w:World)(hG:Laid w)(g:Nat)(hh:1<g)(p:List UInt8)(hH:HashAt w g p)(v:Value)(c:List UInt8)(hc:RB w v c)(hv:v.ownBlock≠some g)(hb:p.length+c.length<4611686018427387904):
    Calls Tryd.prog 39 #[PQ g 0,v] w fun e w' =>e = .returned (.tuple #[])∧HashAt w' g (p++c)∧w.grownBy w' (some g):=by
  obtain⟨s,r,hat,u⟩:=hH
  have hs:=hat.slen
  have hr:=hat.len
  obtain⟨f,hf⟩:∃f,f=p.length%64:=⟨_,rfl⟩
  rw[←hf]at u
  obtain⟨N,hN⟩:∃N,p.length+c.length=N:=⟨_,rfl⟩
  have hgr:w.grownBy w (some g):=World.grownBy.refl _ _
  refine gG (args:= [PQ g 0,v]) Tryd.func39 rfl 60 rfl rfl (gS (Yk.eqlNil sha6_ty76 rfl (cF rfl (gS (Yk.nilCheck rfl (gS (Yk.fieldAt sha6_fo125_3 rfl (gS (Yk.cell1 PJ rfl rfl (cellAt u (hashL_size hs hr)) (gS (Yk.lenRB EX (RB.of hc rfl) (gS (Yk.bin (xv:=NI p.length) (yv:=NI c.length) rfl rfl rfl (Ac _ _ _ (by omega)) (gS (Yk.nilCheck rfl (gS (Yk.fieldAt sha6_fo125_3 rfl (gS (Yk.storeC (i:=73) (v:=NI ((p.length)+(c.length))) rfl rfl u (by rw[Ce hs hr];omega) Ld rfl rfl fun w4 ay al b3=> ?_)))))))))))))))))))
  have hG:Laid w4:=Laid.kept hG al hh
  have hgr:w.grownBy w4 (some g):=A7 hgr al (fun _ e=> .inl e)
  clear u
  have u:=ay;clear ay
  have b4:=bl u
  have u:w4.heap[g]? =some (.cells (hashL s r f N).toArray 125 (0,0)):=AE u (by rw[G1 hs hr,hN])
  have hc:=RB.kept hc al (.inr hv)
  refine gL (fun(ρ:Ae) (wz:World)=>∃m:Nat,∃s1:List UInt32,∃r1:List UInt8,∃f1:Nat,∃v1:Value,ρ 0=(PQ g 0:Value)∧ρ 6=(.bool (false):Value)∧ρ 1=(v1:Value)∧Laid wz∧w.grownBy wz (some g)∧RB wz v1 (c.drop m)∧wz.heap[g]? =some (.cells (hashL s1 r1 f1 N).toArray 125 (0,0))∧(m≤c.length)∧(Sha.At (p++c.take m) s1 r1)∧(f1=(p++c.take m).length%64)∧(OB v1 g)∧True) (fun ρ _=>Be (ρ 1)) ⟨0,s,r,f,v,rfl,rfl,rfl,hG,hgr,hc,AE u (rfl),by omega,by simpa using hat,by simpa using hf,hv,trivial⟩ ?_
  clear hc
  clear u
  clear hG hgr
  rintro az ag ⟨m,s1,r1,f1,v1,q,T6,z,hG,hgr,ab,hb0l,hm,hat1,hf1,hv1,-⟩
  have q1:=z
  have ql1:=ab.sliceLen
  have t:=hat1.slen
  have am:=hat1.len
  have hf64:f1<64:=by omega
  refine gS (Yk.lenRB EX (RB.of ab z) (gS (Yk.eqI (a:=((c.drop m:List UInt8).length:Nat)) (b:=(0:Nat)) rfl rfl (Av _ _ _ _) ?_)))
  refine cD rfl (fun hc1' => ?_) fun hc1' => ?_
  · obtain⟨X,hX⟩:∃X,X=(c.drop m).take (64-f1):=⟨_,rfl⟩
    obtain⟨n,hn⟩:∃n,n=X.length:=⟨_,rfl⟩
    have hxl:X.length=n:=hn.symm
    have hcl:(c.drop m).length=c.length-m:=List.length_drop
    have hnm:Nat.min (c.drop m).length (64-f1)=n:=by rw[hn,hX,List.length_take];exact Nat.min_comm _ _
    have b5:0<n:=by rw[←hnm];exact Nat.lt_min.2 ⟨hc1',by omega⟩
    have b6:f1+n≤64:=by(have:n≤64-f1:=by rw[←hnm];exact Nat.min_le_right _ _);omega
    have a6:n≤(c.drop m).length:=by rw[←hnm];exact Nat.min_le_left _ _
    have hXn:X=(c.drop m).take n:=by rw[hX,←hnm];simp[List.take_eq_take_iff];exact Nat.min_comm _ _
    have htk:(p++c.take m)++X=p++c.take (m+n):=by rw[List.append_assoc,hXn,List.take_add]
    
    refine gR ?_
    refine KT 9 [Is (PQ g 0),Is (PQ g 0),Is (PQ g 8),Is (PQ g 0),Is (PQ g 0),Is (PQ g 72),Is (NI f1),Is (.slice (some ⟨g,8+f1,none⟩) (64-f1) (64-f1)),Is (v1),fun x w' =>x=NI n∧w'.heap[g]? =some (.cells (hashL s1 (r1.take f1++X++r1.drop (f1+n)) f1 N).toArray 125 (0,0))∧ag.grownBy w' (some g),fun x w' =>x=NI n∧w'.heap[g]? =some (.cells (hashL s1 (r1.take f1++X++r1.drop (f1+n)) f1 N).toArray 125 (0,0))∧ag.grownBy w' (some g)] (by kernel_rfl) [19,20,21,22,23,24,25,26,27,28,4] (by kernel_rfl) (by kernel_rfl) (by kernel_rfl) rfl (RU ⟨(fun _ _ _ hp he=>⟨hp.1,eb he hp.2.1,A7 hp.2.2 he.grown (fun _ e=>by cases e)⟩),(fun _ _ _ hp he=>⟨hp.1,eb he hp.2.1,A7 hp.2.2 he.grown (fun _ e=>by cases e)⟩),trivial⟩) (RU trivial) ?a7 ?hQ1003
    case a7=>
      refine⟨?_,?_,?_,?_,?_,?_,?_,?_,?_,?_,?_,trivial⟩
      · refine Aj rfl fun σ w1 hC h=> ?_
        have e0:=(AI (h 0 (by decide))).trans q
        have hC:Ext _ w1:=hC
        exact Yk.move e0 ⟨Ext.refl _,rfl⟩
      · refine Aj rfl fun σ w1 hC h=> ?_
        have a8:=AI (h 19 (by decide))
        have hC:Ext _ w1:=hC
        exact Yk.nilCheck a8 ⟨Ext.refl _,rfl⟩
      · refine Aj rfl fun σ w1 hC h=> ?_
        have a9:=AI (h 20 (by decide))
        have hC:Ext _ w1:=hC
        exact Yk.fieldAt Hr a9 ⟨Ext.refl _,rfl⟩
      · refine Aj rfl fun σ w1 hC h=> ?_
        have e0:=(AI (h 0 (by decide))).trans q
        have hC:Ext _ w1:=hC
        exact Yk.move e0 ⟨Ext.refl _,rfl⟩
      · refine Aj rfl fun σ w1 hC h=> ?_
        have ba:=AI (h 22 (by decide))
        have hC:Ext _ w1:=hC
        exact Yk.nilCheck ba ⟨Ext.refl _,rfl⟩
      · refine Aj rfl fun σ w1 hC h=> ?_
        have bb:=AI (h 23 (by decide))
        have hC:Ext _ w1:=hC
        exact Yk.fieldAt DL bb ⟨Ext.refl _,rfl⟩
      · refine Aj rfl fun σ w1 hC h=> ?_
        have bc:=AI (h 24 (by decide))
        have hC:Ext _ w1:=hC
        exact Yk.cell1 PJ rfl bc (cellAt (eb hC hb0l) (GE t am)) ⟨Ext.refl _,rfl⟩
      · refine Aj rfl fun σ w1 hC h=> ?_
        have bd:=AI (h 21 (by decide))
        have be:=AI (h 25 (by decide))
        have hC:Ext _ w1:=hC
        exact Yk.sliceArrL IY M4 bd be (by omega) ⟨Ext.refl _,rfl⟩
      · refine Aj rfl fun σ w1 hC h=> ?_
        have e1:=(AI (h 1 (by decide))).trans z
        have hC:Ext _ w1:=hC
        exact Yk.move e1 ⟨Ext.refl _,rfl⟩
      · refine Aj rfl fun σ w1 hC h=> ?_
        have bf:=AI (h 26 (by decide))
        have bg:=AI (h 27 (by decide))
        have hC:Ext _ w1:=hC
        refine Yk.copyB (.tmp 26) (.tmp 27) (o:=8+f1) EX Ru bf (l:=c.drop m) (by show RB w1 (σ 27) _;rw[bg];exact ab.keep hC) (eb hC hb0l) (by rw[hnm];simp only[List.size_toArray,Ce t am];omega) ?_
        refine⟨trivial,by rw[hnm];rfl,?_,?_⟩
        · rw[hnm,←hX,←hxl]
          have:=M8 (f:=f1) (n:=N) (at_:=f1) (x:=X) t am (by omega)
          rw[this]
          exact setRow_heap w1 g _ _ _ _ (eb hC hb0l)
        · exact A7 (KR hC.grown (some g)) ⟨rfl,rfl,rfl,by simp,fun k _ hk=>setRow_other w1 g k _ (fun e=>hk (by rw[e]))⟩ (fun _ e=> .inl e)
      · refine Aj rfl fun σ w1 hC h=> ?_
        have bh:(fun x w' =>x=NI n∧w'.heap[g]? =some (.cells (hashL s1 (r1.take f1++X++r1.drop (f1+n)) f1 N).toArray 125 (0,0))∧ag.grownBy w' (some g)) (σ 28) w1:=h 28 (by decide)
        exact Yk.assign rfl ⟨Ext.refl _,bh⟩
    intro a0 ah he hf
    obtain⟨-,-,-,-,-,-,-,-,-,-,k4,-⟩:=hf
    obtain⟨q,z,T6,-⟩:=he.hold [(0,_),(1,_),(6,_)] ⟨q,z,T6,trivial⟩ rfl
    clear he
    have k4:(fun x w' =>x=NI n∧w'.heap[g]? =some (.cells (hashL s1 (r1.take f1++X++r1.drop (f1+n)) f1 N).toArray 125 (0,0))∧ag.grownBy w' (some g)) (a0 4) ah:=k4
    obtain⟨b7,T4⟩:∃v,a0 4=v:=⟨_,rfl⟩
    rw[T4]at k4
    have bi:=k4;clear k4
    obtain⟨hv4,a1,ao⟩:=bi
    rw[hv4]at T4
    have hG:Laid ah:=Laid.kept hG ao hh
    have hgr:w.grownBy ah (some g):=A7 hgr ao (fun _ e=> .inl e)
    clear hb0l
    have j:=a1;clear a1
    obtain⟨r2,ai⟩:∃r2,r2=r1.take f1++X++r1.drop (f1+n):=⟨_,rfl⟩
    have hr2l:r2.length=64:=by rw[ai];simp only[List.length_append,List.length_take,List.length_drop];omega
    have j:ah.heap[g]? =some (.cells (hashL s1 r2 f1 N).toArray 125 (0,0)):=AE j (by rw[←ai])
    refine gX (gS (Yk.nilCheck q (gS (Yk.fieldAt DL rfl (gS (Yk.cell1 PJ rfl rfl (cellAt j (GE t hr2l)) (gS (Yk.bin (xv:=NI f1) (yv:=NI n) rfl T4 rfl (Ac _ _ _ (by omega)) (gS (Yk.nilCheck q (gS (Yk.fieldAt DL rfl (gS (Yk.storeC (i:=72) (v:=NI ((f1)+(n))) rfl rfl j (by rw[Ce t hr2l];omega) Ld rfl rfl fun ap a2 aq b8=> ?_))))))))))))))
    have hG:Laid ap:=Laid.kept hG aq hh
    have hgr:w.grownBy ap (some g):=A7 hgr aq (fun _ e=> .inl e)
    clear j
    have j:=a2;clear a2
    have b9:=bl j
    have j:ap.heap[g]? =some (.cells (hashL s1 r2 (f1+n) N).toArray 125 (0,0)):=AE j (G0 t hr2l)
    have ab:=RB.kept ab ao (.inr hv1)
    have ab:=RB.kept ab aq (.inr hv1)
    refine gS (Yk.sliceLo (xs:=c.drop m) (l:=n) EX M4 z ab T4 (a6) fun af y ha29=> ?_)
    have aj:OB af g:=fun e=>hv1 (ha29.symm.trans e)
    refine gS (Yk.nilCheck q (gS (Yk.fieldAt DL rfl (gS (Yk.cell1 PJ rfl rfl (cellAt j (GE t hr2l)) (gS (Yk.eqI (a:=((f1+n):Nat)) (b:=(64:Nat)) rfl rfl (AO _ _ _ _) ?_)))))))
    refine cD rfl (fun bj=> ?_) fun bj=> ?_
    · have hr2f:r2=r1.take f1++X:=by rw[ai,List.drop_of_length_le (by omega),List.append_nil]
      obtain⟨R,hR⟩:∃R,R=Sha.rounds s1 r2:=⟨_,rfl⟩
      have HRl:R.length=8:=by rw[hR,Sha.rounds_length _ _ t]
      have hatF:Sha.At ((p++c.take m)++X) R r2:=by rw[hR,hr2f,hf1];exact hat1.fill X (by omega)
      have hfF:0=((p++c.take m)++X).length%64:=by rw[List.length_append];omega
      refine gR ?_
      refine Jl 12 (fun(a_ b_:World)=>b_.heap[g]? =some (.cells ((cellsU R).toList++(hashL s1 r2 (f1+n) N).drop (cellsU R).size).toArray 125 (0,0))∧a_.grownBy b_ (some g)∧b_.heap.size=a_.heap.size) [Is (PQ g 0),Is (PQ g 0),Is (PQ g 0),Is (PQ g 0),Is (.agg (cellsU s1)),Is (PQ g 0),Is (PQ g 0),Is (PQ g 8),Is (.slice (some ⟨g,8,none⟩) 64 64),Is (.agg (cellsU R)),Is (PQ g 0),Is (PQ g 0),(fun _ _=>True)] (by kernel_rfl) [45,46,47,48,49,50,51,52,53,54,55,56] (by kernel_rfl) (by kernel_rfl) (by kernel_rfl) rfl (Rr ⟨Stab.any,trivial⟩) (Rr ⟨Stab.any,trivial⟩) ?bk ?hQ2007
      case bk=>
        refine⟨?_,?_,?_,?_,?_,?_,?_,?_,?_,?_,?_,?_,?_,trivial⟩
        · refine Aj rfl fun σ w1 hC h=> ?_
          have e0:=(AI (h 0 (by decide))).trans q
          have hC:Ext _ w1:=hC
          exact Yk.move e0 ⟨Ext.refl _,rfl⟩
        · refine Aj rfl fun σ w1 hC h=> ?_
          have e0:=(AI (h 0 (by decide))).trans q
          have hC:Ext _ w1:=hC
          exact Yk.move e0 ⟨Ext.refl _,rfl⟩
        · refine Aj rfl fun σ w1 hC h=> ?_
          have bm:=AI (h 46 (by decide))
          have hC:Ext _ w1:=hC
          exact Yk.nilCheck bm ⟨Ext.refl _,rfl⟩
        · refine Aj rfl fun σ w1 hC h=> ?_
          have bn:=AI (h 47 (by decide))
          have hC:Ext _ w1:=hC
          exact Yk.fieldAt Hs bn ⟨Ext.refl _,rfl⟩
        · refine Aj rfl fun σ w1 hC h=> ?_
          have bo:=AI (h 48 (by decide))
          have hC:Ext _ w1:=hC
          exact Yk.loadPart (cs:=s1.map fun x=>U x) bo (H9 (eb hC j)) AV rfl (by rw[List.length_map,t];exact DY) ⟨Ext.refl _,rfl⟩
        · refine Aj rfl fun σ w1 hC h=> ?_
          have e0:=(AI (h 0 (by decide))).trans q
          have hC:Ext _ w1:=hC
          exact Yk.move e0 ⟨Ext.refl _,rfl⟩
        · refine Aj rfl fun σ w1 hC h=> ?_
          have bp:=AI (h 50 (by decide))
          have hC:Ext _ w1:=hC
          exact Yk.nilCheck bp ⟨Ext.refl _,rfl⟩
        · refine Aj rfl fun σ w1 hC h=> ?_
          have bq:=AI (h 51 (by decide))
          have hC:Ext _ w1:=hC
          exact Yk.fieldAt Hr bq ⟨Ext.refl _,rfl⟩
        · refine Aj rfl fun σ w1 hC h=> ?_
          have br:=AI (h 52 (by decide))
          have hC:Ext _ w1:=hC
          exact Yk.sliceArr IY M4 br ⟨Ext.refl _,rfl⟩
        · refine Aj rfl fun σ w1 hC h=> ?_
          have bs:=AI (h 49 (by decide))
          have bt:=AI (h 53 (by decide))
          have hC:Ext _ w1:=hC
          refine Yk.callA2 OD bs bt ((M7 _ (hG.keep hC) s1 t _ r2 (QX t hr2l (eb hC j)) hr2l).mono ?_)
          rintro e w2 ⟨rfl,hx⟩
          exact⟨_,rfl,hx,by rw[hR];rfl⟩
        · refine Aj rfl fun σ w1 hC h=> ?_
          have bv:=AI (h 45 (by decide))
          have hC:Ext _ w1:=hC
          exact Yk.nilCheck bv ⟨Ext.refl _,rfl⟩
        · refine Aj rfl fun σ w1 hC h=> ?_
          have bw:=AI (h 55 (by decide))
          have hC:Ext _ w1:=hC
          exact Yk.fieldAt Hs bw ⟨Ext.refl _,rfl⟩
        · refine Aj rfl fun σ w1 hC h=> ?_
          have bx:=AI (h 56 (by decide))
          have bz:=AI (h 54 (by decide))
          have hC:Ext _ w1:=hC
          exact Yk.storeHd bx bz (eb hC j) (by rw[F4,HRl,Ce t hr2l];omega) (by rw[F4,HRl];exact DY) (Dj _) fun w2 h1 h2 h3=>⟨⟨h1,h2,h3⟩,trivial⟩
      intro b0 a3 ar au b1 he hf
      obtain⟨-,-,-,-,-,-,-,-,-,-,-,-,-⟩:=hf
      obtain⟨q,z,T4,T6,-⟩:=he.hold [(0,_),(1,af),(4,_),(6,_)] ⟨q,rfl,T4,T6,trivial⟩ rfl
      clear he
      have hG:Laid a3:=(hG.keep au)
      have hgr:w.grownBy a3 (some g):=A7 hgr au.grown (fun _ e=>by cases e)
      obtain⟨a4,av,ca⟩:=b1
      have hG:Laid ar:=Laid.kept hG av hh
      have hgr:w.grownBy ar (some g):=A7 hgr av (fun _ e=> .inl e)
      clear j
      have j:=a4;clear a4
      have j:ar.heap[g]? =some (.cells (hashL R r2 (f1+n) N).toArray 125 (0,0)):=AE j (by rw[F4,HRl];exact LZ t)
      refine gX (gS (Yk.nilCheck q (gS (Yk.fieldAt DL rfl (gS (Yk.storeC (i:=72) (v:=NI 0) rfl rfl j (by rw[Ce HRl hr2l];omega) Ld rfl rfl fun aw a5 ax cb=> ?_))))))
      have hG:Laid aw:=Laid.kept hG ax hh
      have hgr:w.grownBy aw (some g):=A7 hgr ax (fun _ e=> .inl e)
      clear j
      have j:=a5;clear a5
      have cc:=bl j
      have j:aw.heap[g]? =some (.cells (hashL R r2 0 N).toArray 125 (0,0)):=AE j (G0 HRl hr2l)
      have y:=y.keep au
      have y:=RB.kept y av (.inr aj)
      have y:=RB.kept y ax (.inr aj)
      refine gK (And.intro ⟨m+n,R,r2,0,af,q,T6,z,hG,hgr,(show RB _ _ _ from(by rw[←List.drop_drop];exact y)),AE j (rfl),by omega,by rw[←htk];exact hatF,by rw[←htk];exact hfF,aj,trivial⟩ ?_)
      show Be (b0 1)<Be (az 1)
      rw[z,q1]
      have q3:=y.sliceLen
      have q4:=ql1
      rw[q3,q4]
      simp only[List.length_drop]
      omega
    have hatP:Sha.At ((p++c.take m)++X) s1 r2:=by rw[ai,←hxl,hf1];exact hat1.put X (by omega)
    have hfP:f1+n=((p++c.take m)++X).length%64:=by rw[List.length_append];omega
    refine gK (And.intro ⟨m+n,s1,r2,f1+n,af,q,T6,rfl,hG,hgr,(show RB _ _ _ from(by rw[←List.drop_drop];exact y)),AE j (rfl),by omega,by rw[←htk];exact hatP,by rw[←htk];exact hfP,aj,trivial⟩ ?_)
    show Be (af)<Be (az 1)
    rw[q1]
    have q3:=y.sliceLen
    have q4:=ql1
    rw[q3,q4]
    simp only[List.length_drop]
    omega
  have hcF:=hc1'
  refine N0 rfl ?_
  have hml:m=c.length:=by have:=hcF;simp at this;omega
  subst hml
  refine⟨rfl,⟨s1,r1,by simpa using hat1,?_⟩,hgr⟩
  have e1:f1=(p++c).length%64:=by simpa using hf1
  have e2:N=(p++c).length:=by rw[←hN,List.length_append]
  rw[←e1,←e2]
  exact hb0l
open Go.RowKit
set_option maxRecDepth 100000
theorem OE(s:List UInt32)(r:List UInt8)(f n:Nat):∀v∈(hashL s r f n).toArray.toList,v.oneCell' =true:=by
 intro v hv
 simp[hashL,Lib.byteCells]at hv
 rcases hv with ⟨_,_,rfl⟩ | ⟨_,_,rfl⟩ | rfl | rfl <;> rfl
namespace Sha
def outs(s:List UInt32)(i:Nat):List UInt8:=(out s).take (4*i)++List.replicate (32-4*i) 0
theorem out_length:∀s:List UInt32,(out s).length=4*s.length
 | []=>rfl
 | x :: s=>by
  have:=out_length s
  unfold out at *
  rw[List.flatMap_cons,List.length_append,this]
  simp
  omega
theorem outs_length(s:List UInt32)(hs:s.length=8)(i:Nat)(hi:i≤8):(outs s i).length=32:=by
 unfold outs
 rw[List.length_append,List.length_take,List.length_replicate,out_length,hs]
 omega
theorem outs_all(s:List UInt32)(hs:s.length=8):outs s 8=out s:=by
 unfold outs
 rw[List.take_of_length_le (by rw[out_length,hs];exact Nat.le_refl _)]
 simp
theorem outs_step(s:List UInt32)(hs:s.length=8)(i:Nat)(hi:i<8):
  ((((outs s i).set (4*i) (s.getD i 0>>>24).toUInt8).set (4*i+1) (s.getD i 0>>>16).toUInt8).set (4*i+2) (s.getD i 0>>>8).toUInt8).set (4*i+3) (s.getD i 0).toUInt8=outs s (i+1):=by
 match s,hs with
 | [a,b,c,d,e,f,g,h],_=>
  have:i=0∨i=1∨i=2∨i=3∨i=4∨i=5∨i=6∨i=7:=by omega
  rcases this with rfl | rfl | rfl | rfl | rfl | rfl | rfl | rfl <;> rfl
theorem sum_length(p:List UInt8):(sum p).length=32:=by
 unfold sum
 rw[out_length,blocks_length _ _ _ rfl]
end Sha
theorem Ib:(Tryd.prog.info? 125).map (·.size)=some 74:=by kernel_rfl
theorem Nl:∃fs,Tryd.prog.underlying 125=some (.struct fs):=DF (by kernel_rfl)
theorem Nm{d:Option Tmp}{ty:TypeId}{pos:String}{af:Array Edge}{gd:Option (Nat × Bool)}(σ:Operand→Value)(w:World):(execOp σ ⟨d, .alloc 125,ty,pos,af,gd⟩).run Tryd.prog w = .ok (.value (PQ w.heap.size 0)) (w.alloc (.cells (hashL (List.replicate 8 0) (List.replicate 64 0) 0 0).toArray 125)):=by kernel_rfl
theorem OF:AA Tryd.prog 39:=fun _ _=>by kernel_rfl
theorem OH(w:World)(hG:Laid w)(g:Nat)(p:List UInt8)(hH:HashAt w g p)(hp:p.length<1152921504606846976):
  Calls Tryd.prog 40 #[PQ g 0] w fun e w' =>e = .returned (AB (Sha.sum p))∧Ext w w' :=by
 obtain⟨s,r,hat,c⟩:=hH
 have hs:=hat.slen
 have hr:=hat.len
 obtain⟨f,hf⟩:∃f,f=p.length%64:=⟨_,rfl⟩
 obtain⟨N,hN⟩:∃N,p.length=N:=⟨_,rfl⟩
 rw[←hf,hN]at c
 have hw2:1<w.heap.size:=hG.two
 refine gG (args:= [PQ g 0]) Tryd.func40 rfl 85 rfl rfl ?_
 have hE:=Ext.refl w
 refine gS (Yk.alloc PP fun n2 w3 b4 bf bg ct=> ?_)
 have cu:=Aw (bl c) b4
 have h:=bf;clear bf
 have cv:n2<w3.heap.size:=by omega
 have c:=eb bg c
 refine gS (Yk.eqlNil sha6_ty76 rfl (cF rfl (gS (Yk.nilCheck rfl (gS (Yk.loadAll rfl c (Nl).choose_spec rfl (by rw[List.size_toArray,Ce hs hr];exact Ib) (gS (Yk.alloc Nm fun y b5 bh bi a4 cw=> ?_))))))))
 have m:=Ext.refl w3
 have hE:=hE.trans bg
 have bj:=hE.size
 have cx:=Aw (bl c) bh
 have cy:=Aw (bl h) bh
 have o:=bi;clear bi
 have cz:y<b5.heap.size:=by omega
 refine gS (Yk.storeAll (vr (PQ y 0) rfl) (vr (.agg (hashL s r f N).toArray) rfl) o (by rw[List.size_toArray,List.size_toArray,Ce hs hr];rfl) (by rw[List.size_toArray,Ce hs hr];exact Ib) (OE s r f N) fun af bk a5 c0=> ?_)
 have c:=eb a4 c
 have c:=kb a5 c (by omega)
 have hE:=hE.trans a4
 have hE:=Aa hE a5 (Nat.le_trans bj (by omega))
 have h:=eb a4 h
 have h:=kb a5 h (by omega)
 have m:=m.trans a4
 have m:=Aa m a5 (Nat.le_trans (Nat.le_refl _) (by omega))
 clear o
 have o:=bk;clear bk
 have c1:=bl o
 refine gS (Yk.lit1 (b:=128) Od (vr (B8 (128)) rfl) fun a6 c2 ag=> ?_)
 have q:=Ext.refl af
 have bm:=hE.size
 have bn:=m.size
 have b6:OB a6 g:=EW ag.own (bl c)
 have b7:OB a6 n2:=EW ag.own (bl h)
 have b8:OB a6 y:=EW ag.own (bl o)
 have bo:=ag.own
 have c:=eb ag.ext c
 have hE:=hE.trans ag.ext
 have h:=eb ag.ext h
 have m:=m.trans ag.ext
 have o:=eb ag.ext o
 have q:=q.trans ag.ext
 refine gL (fun(ρ:Ae) (wz:World)=>∃k:Nat,∃v4:Value,ρ 0=(PQ g 0:Value)∧ρ 2=(PQ n2 0:Value)∧ρ 3=(PQ y 0:Value)∧ρ 11=(.bool (false):Value)∧ρ 4=(v4:Value)∧wz.heap[g]? =some (.cells (hashL s r f N).toArray 125 (0,0))∧Ext w wz∧wz.heap[n2]? =some (.cells (Lib.byteCells (List.replicate 32 0)).toArray 38 (0,0))∧Ext w3 wz∧wz.heap[y]? =some (.cells (hashL s r f N).toArray 125 (0,0))∧Ext af wz∧wz.ownsRow af.heap.size 5 1 v4 (128 :: List.replicate k 0:List UInt8).length (Lib.byteCells (128 :: List.replicate k 0))∧(k≤(119-N%64)%64)∧(OB v4 g)∧(OB v4 n2)∧(OB v4 y)∧True) (fun ρ _=>65-Be (ρ 4)) ⟨0,a6,rfl,rfl,rfl,rfl,rfl,c,hE,h,m,o,q,Bn bo (rfl),Nat.zero_le _,b6,b7,b8,trivial⟩ ?_
 clear bo
 clear c hE h m o q
 rintro b9 ca ⟨k,v4,T0,T2,T3,ao,T4,c,hE,h,m,o,q,ho_v4,hk,hap_v4_g,hap_v4_n2,hap_v4_n14,-⟩
 have q4:=T4
 have ql4:=Cs ho_v4
 refine gS (Yk.nilCheck T0 (gS (Yk.fieldAt sha6_fo125_3 rfl (gS (Yk.cell1 PJ rfl rfl (cellAt c (hashL_size hs hr)) (gS (Yk.lenRB EX (RB.of (RB.ofOwn ho_v4) T4) (gS (Yk.bin (xv:=NI N) (yv:=NI ((128 :: List.replicate k 0:List UInt8).length)) rfl rfl rfl (Ac _ _ _ (by simp;omega)) (gS (Yk.bin (xv:=NI ((N)+((128 :: List.replicate k 0:List UInt8).length))) (yv:=NI 64) rfl rfl rfl (CR _ _ _ (by omega)) (gS (Yk.eqI (a:=(((N)+((128 :: List.replicate k 0:List UInt8).length))%(64):Nat)) (b:=(56:Nat)) rfl rfl (AF _ _ _ _) ?_)))))))))))))
 refine cD rfl (fun bb=> ?_) fun bb=> ?_
 ·refine gS (Yk.lit1 (b:=0) Od (vr (B8 (0)) rfl) fun bp cb al=> ?_)
  have c3:=hE.size
  have c4:=m.size
  have c5:=q.size
  have cc:Am v4 bp:=B3 ho_v4 al.own
  have bc:=al.own
  have q:=q.trans al.ext
  have ho_v4:=Stab.own _ _ _ _ _ _ _ _ ho_v4 al.ext
  refine gS (Yk.appendRB _ _ af.heap.size (.int .u8 0) EX IP rfl EX (128 :: List.replicate k 0) ([(0:UInt8)]) (BA ho_v4 T4) (RB.of (RB.ofOwn bc) (vr bp rfl)) (by simp;omega) q.size fun ax cd bq ac=> ?_)
  have ac:Grew cb cd v4 ax:= .eqv T4 ac
  have c:=eb al.ext c
  have ce:OB ax g:=An ac hap_v4_g (bl c)
  have h:=eb al.ext h
  have cf:OB ax n2:=An ac hap_v4_n2 (bl h)
  have o:=eb al.ext o
  have cg:OB ax y:=An ac hap_v4_n14 (bl o)
  have c:=Ak c ac hap_v4_g
  have hE:=hE.trans al.ext
  have hE:=Af hE ac ho_v4 bm
  have h:=Ak h ac hap_v4_n2
  have m:=m.trans al.ext
  have m:=Af m ac ho_v4 bn
  have o:=Ak o ac hap_v4_n14
  have q:=Af q ac ho_v4 (Nat.le_refl _)
  have bc:=B7 bc ac cc
  clear ho_v4
  refine gK (And.intro ⟨k+1,ax,T0,T2,T3,ao,rfl,c,hE,h,m,o,q,Bn bq (by simp[List.replicate_succ']),by simp at bb;omega,ce,cf,cg,trivial⟩ ?_)
  show 65-Be (ax)<65-Be (b9 4)
  rw[q4]
  have qn:=Cs bq
  rw[qn,ql4]
  simp
  omega
 refine gS (Yk.nilCheck T0 (gS (Yk.fieldAt sha6_fo125_3 rfl (gS (Yk.cell1 PJ rfl rfl (cellAt c (hashL_size hs hr)) (gS (Yk.convI PJ JS rfl (Fs (N) (by omega)) (gS (Yk.bin (xv:= .int .u64 ((N:Nat):Int)) (yv:= .int .u64 ((8:Nat):Int)) rfl rfl rfl (Ms _ _ _ (by omega)) ?_)))))))))
 obtain⟨Z,hZ⟩:∃Z,Z=(128:UInt8) :: List.replicate k 0:=⟨_,rfl⟩
 have ho_v4:ca.ownsRow af.heap.size 5 1 v4 (Z:List UInt8).length (Lib.byteCells (Z)):=(hZ.symm:128 :: List.replicate k 0=Z)▸ho_v4
 have hZl:Z.length=1+k:=by rw[hZ];simp;omega
 refine gL (fun(ρ:Ae) (wz:World)=>∃i:Nat,∃z:Value,ρ 0=(PQ g 0:Value)∧ρ 2=(PQ n2 0:Value)∧ρ 3=(PQ y 0:Value)∧ρ 5=(.int .u64 (((N)*(8):Nat):Int):Value)∧ρ 11=(.bool (false):Value)∧ρ 36=(NI i:Value)∧ρ 4=(z:Value)∧wz.heap[g]? =some (.cells (hashL s r f N).toArray 125 (0,0))∧Ext w wz∧wz.heap[n2]? =some (.cells (Lib.byteCells (List.replicate 32 0)).toArray 38 (0,0))∧Ext w3 wz∧wz.heap[y]? =some (.cells (hashL s r f N).toArray 125 (0,0))∧Ext af wz∧wz.ownsRow af.heap.size 5 1 z (Z++(Sha.be64 (8*N)).take i:List UInt8).length (Lib.byteCells (Z++(Sha.be64 (8*N)).take i))∧(i≤8)∧(OB z g)∧(OB z n2)∧(OB z y)∧True) (fun ρ _=>8-(intOf (ρ 36)).toNat) ⟨0,v4,T0,T2,T3,rfl,ao,rfl,T4,c,hE,h,m,o,q,Bn ho_v4 (by simp),by omega,hap_v4_g,hap_v4_n2,hap_v4_n14,trivial⟩ ?_
 clear ho_v4
 clear c hE h m o q
 rintro ch ci ⟨i,z,T0,T2,T3,T5,ao,ap,T4,c,hE,h,m,o,q,n,hi,hap_v5_g,hap_v5_n2,hap_v5_n14,-⟩
 have q36:=ap
 have ql4:=Cs n
 refine gS (Yk.eqI (a:=(i:Nat)) (b:=(8:Nat)) ap rfl (Ah _ _ _ _) ?_)
 refine cD rfl (fun br=> ?_) fun br=> ?_
 ·refine gS (Yk.bin (xv:=NI 8) (yv:=NI i) rfl ap rfl (A0 _ _ _ (by omega)) (gS (Yk.bin (xv:=NI 56) (yv:=NI ((8)*(i))) rfl rfl rfl (Ay _ _ _ (by omega) (by omega)) (gS (Yk.bin (xv:= .int .u64 (((N)*(8):Nat):Int)) (yv:=NI ((56)-((8)*(i)))) T5 rfl rfl (Mu _ _ _ _ (by omega)) (gS (Yk.convI JS u5 rfl (D9 (((N)*(8))/2^((56)-((8)*(i))))) (gS (Yk.lit1 (b:=UInt8.ofNat (((N)*(8))/2^((56)-((8)*(i))))) Od (vr (B8 (UInt8.ofNat (((N)*(8))/2^((56)-((8)*(i)))))) rfl) fun bs cj am=> ?_)))))))))
  have c6:=hE.size
  have c7:=m.size
  have c8:=q.size
  have ck:Am z bs:=B3 n am.own
  have bd:=am.own
  have q:=q.trans am.ext
  have n:=Stab.own _ _ _ _ _ _ _ _ n am.ext
  refine gS (Yk.appendRB _ _ af.heap.size (.int .u8 0) EX IP rfl EX (Z++(Sha.be64 (8*N)).take i) ([(UInt8.ofNat (((N)*(8))/2^((56)-((8)*(i)))):UInt8)]) (BA n T4) (RB.of (RB.ofOwn bd) (vr bs rfl)) (by simp[Sha.be64];omega) q.size fun a1 cl cm ad=> ?_)
  have ad:Grew cj cl z a1:= .eqv T4 ad
  have c:=eb am.ext c
  have cn:OB a1 g:=An ad hap_v5_g (bl c)
  have h:=eb am.ext h
  have co:OB a1 n2:=An ad hap_v5_n2 (bl h)
  have o:=eb am.ext o
  have cp:OB a1 y:=An ad hap_v5_n14 (bl o)
  have c:=Ak c ad hap_v5_g
  have hE:=hE.trans am.ext
  have hE:=Af hE ad n bm
  have h:=Ak h ad hap_v5_n2
  have m:=m.trans am.ext
  have m:=Af m ad n bn
  have o:=Ak o ad hap_v5_n14
  have q:=Af q ad n (Nat.le_refl _)
  have bd:=B7 bd ad ck
  clear n
  refine gS (Yk.bin (xv:=NI i) (yv:=NI 1) ap rfl rfl (Ac _ _ _ (by omega)) (gK (And.intro ⟨i+1,a1,T0,T2,T3,T5,ao,rfl,rfl,c,hE,h,m,o,q,Bn cm (by rw[Sha.be64_take _ _ br,List.append_assoc,Nat.mul_comm N 8]),by omega,cn,co,cp,trivial⟩ ?_)))
  show 8-(intOf (NI ((i)+(1)))).toNat<8-(intOf (ch 36)).toNat
  rw[q36]
  simp only[intOf,Int.toNat_natCast];omega
 obtain⟨Q,hQ⟩:∃Q,Q=Z++(Sha.be64 (8*N)).take i:=⟨_,rfl⟩
 have n:ci.ownsRow af.heap.size 5 1 z (Q:List UInt8).length (Lib.byteCells (Q)):=(hQ.symm:Z++(Sha.be64 (8*N)).take i=Q)▸n
 have hQt:Q=Sha.tail p.length:=by simp at bb;rw[hQ,hZ,show i=8 by omega,show k=(119-p.length%64)%64 by omega,List.take_of_length_le (by simp[Sha.be64]),←hN];simp[Sha.tail]
 have hQl:Q.length≤100:=by rw[hQ];simp[Sha.be64];omega
 refine gS (Yk.callA2 OF T3 T4 ((JT _ (hG.keep hE) y (by omega) p ⟨s,r,hat,by rw[←hf,hN];exact o⟩ z Q (RB.ofOwn n) hap_v5_n14 (by omega)).mono ?_))
 rintro e bt ⟨rfl,⟨s2,r2,hat2,t⟩,a2⟩
 refine⟨_,rfl,?_⟩
 have c:=kb a2 c (by omega)
 have hE:=Aa hE a2 (Nat.le_trans bj (by omega))
 have h:=kb a2 h (by omega)
 have m:=Aa m a2 (Nat.le_trans (Nat.le_refl _) (by omega))
 clear q
 have n:=AY n a2 hap_v5_n14
 clear o
 have ae:=hat2.slen
 have c9:=hat2.len
 refine gS (Yk.alloc PP fun a7 cq be bu aq da=> ?_)
 have u:=Ext.refl bt
 have a8:=hE.size
 have a9:=m.size
 have db:=Aw (bl c) be
 have dc:=Aw (bl h) be
 have dd:=Aw (bl t) be
 have ba:OB z a7:=AQ n (by omega)
 have bv:=bu;clear bu
 have de:a7<cq.heap.size:=by omega
 have c:=eb aq c
 have hE:=hE.trans aq
 have h:=eb aq h
 have m:=m.trans aq
 have n:=Stab.own _ _ _ _ _ _ _ _ n aq
 have t:=eb aq t
 have u:=u.trans aq
 refine gS (Yk.fieldAt Hs T3 (gS (Yk.loadPart (cs:=s2.map fun x=>U x) rfl (H9 t) AV rfl (by rw[List.length_map,ae];exact DY) (gL (fun(ρ:Ae) (wz:World)=>∃j:Nat,ρ 0=(PQ g 0:Value)∧ρ 2=(PQ n2 0:Value)∧ρ 3=(PQ y 0:Value)∧ρ 4=(z:Value)∧ρ 5=(.int .u64 (((N)*(8):Nat):Int):Value)∧ρ 7=(PQ a7 0:Value)∧ρ 11=(.bool (false):Value)∧ρ 36=(NI i:Value)∧ρ 52=(.agg (s2.map fun x=>U x).toArray:Value)∧ρ 53=(NI j:Value)∧wz.heap[g]? =some (.cells (hashL s r f N).toArray 125 (0,0))∧Ext w wz∧wz.heap[n2]? =some (.cells (Lib.byteCells (List.replicate 32 0)).toArray 38 (0,0))∧Ext w3 wz∧wz.ownsRow af.heap.size 5 1 z (Q:List UInt8).length (Lib.byteCells (Q))∧wz.heap[y]? =some (.cells (hashL s2 r2 ((p++Q).length%64) (p++Q).length).toArray 125 (0,0))∧Ext bt wz∧wz.heap[a7]? =some (.cells (Lib.byteCells (Sha.outs s2 j)).toArray 38 (0,0))∧(j≤8)∧True) (fun ρ _=>8-(intOf (ρ 53)).toNat) ⟨0,T0,T2,T3,T4,T5,rfl,ao,ap,rfl,rfl,c,hE,h,m,n,t,u,AE bv (rfl),by omega,trivial⟩ ?_))))
 clear bv
 clear c hE h m n t u
 rintro cr df ⟨j,T0,T2,T3,T4,T5,T7,ao,ap,bw,an,c,hE,h,m,n,t,u,hb128l,hj,-⟩
 have q53:=an
 refine gS (Yk.eqI (a:=(j:Nat)) (b:=(8:Nat)) an rfl (Ah _ _ _ _) ?_)
 refine cD rfl (fun bx=> ?_) fun bx=> ?_
 ·refine gS (Yk.idxU (l:=s2) (i:=j) AV AL rfl AM bw an (by omega) (ae) (gS (Yk.bin (xv:=NI 4) (yv:=NI j) rfl an rfl (A0 _ _ _ (by omega)) (gS (Yk.bin (xv:=NI 4) (yv:=NI j) rfl an rfl (A0 _ _ _ (by omega)) (gS (Yk.bin (xv:=NI ((4)*(j))) (yv:=NI 1) rfl rfl rfl (Ac _ _ _ (by omega)) (gS (Yk.bin (xv:=NI 4) (yv:=NI j) rfl an rfl (A0 _ _ _ (by omega)) (gS (Yk.bin (xv:=NI ((4)*(j))) (yv:=NI 2) rfl rfl rfl (Ac _ _ _ (by omega)) (gS (Yk.bin (xv:=NI 4) (yv:=NI j) rfl an rfl (A0 _ _ _ (by omega)) (gS (Yk.bin (xv:=NI ((4)*(j))) (yv:=NI 3) rfl rfl rfl (Ac _ _ _ (by omega)) (gS (Yk.bin rfl rfl rfl (Ei _ _ _ 24 (by decide)) (gS (Yk.narrow AL u5 rfl (gS (Yk.bin rfl rfl rfl (Ei _ _ _ 16 (by decide)) (gS (Yk.narrow AL u5 rfl (gS (Yk.bin rfl rfl rfl (Ei _ _ _ 8 (by decide)) (gS (Yk.narrow AL u5 rfl (gS (Yk.narrow AL u5 rfl (gS (Yk.atArr0 (i:=(4)*(j)) QJ M4 T7 rfl (by omega) ?_)))))))))))))))))))))))))))))))
  refine gS (Yk.storeB8 (i:=(4)*(j)) (v:=((s2.getD (j) 0)>>>24).toUInt8) rfl rfl hb128l (by rw[Sha.outs_length _ ae _ (by omega)];omega) Ru fun dg bz ar dh=> ?_)
  have c:=kb ar c (by omega)
  have hE:=Aa hE ar (Nat.le_trans a8 (by omega))
  have h:=kb ar h (by omega)
  have m:=Aa m ar (Nat.le_trans a9 (by omega))
  have n:=AY n ar ba
  have t:=kb ar t (by omega)
  have u:=Aa u ar (Nat.le_trans (Nat.le_refl _) (by omega))
  clear hb128l
  have hb128l:=bz;clear bz
  have di:=bl hb128l
  refine gS (Yk.atArr0 (i:=((4)*(j))+(1)) QJ M4 T7 rfl (by omega) (gS (Yk.storeB8 (i:=((4)*(j))+(1)) (v:=((s2.getD (j) 0)>>>16).toUInt8) rfl rfl hb128l (by rw[List.length_set,Sha.outs_length _ ae _ (by omega)];omega) Ru fun dj b0 au dk=> ?_)))
  have c:=kb au c (by omega)
  have hE:=Aa hE au (Nat.le_trans a8 (by omega))
  have h:=kb au h (by omega)
  have m:=Aa m au (Nat.le_trans a9 (by omega))
  have n:=AY n au ba
  have t:=kb au t (by omega)
  have u:=Aa u au (Nat.le_trans (Nat.le_refl _) (by omega))
  clear hb128l
  have hb128l:=b0;clear b0
  have dl:=bl hb128l
  refine gS (Yk.atArr0 (i:=((4)*(j))+(2)) QJ M4 T7 rfl (by omega) (gS (Yk.storeB8 (i:=((4)*(j))+(2)) (v:=((s2.getD (j) 0)>>>8).toUInt8) rfl rfl hb128l (by rw[List.length_set,List.length_set,Sha.outs_length _ ae _ (by omega)];omega) Ru fun dm b1 av dn=> ?_)))
  have c:=kb av c (by omega)
  have hE:=Aa hE av (Nat.le_trans a8 (by omega))
  have h:=kb av h (by omega)
  have m:=Aa m av (Nat.le_trans a9 (by omega))
  have n:=AY n av ba
  have t:=kb av t (by omega)
  have u:=Aa u av (Nat.le_trans (Nat.le_refl _) (by omega))
  clear hb128l
  have hb128l:=b1;clear b1
  have dp:=bl hb128l
  refine gS (Yk.atArr0 (i:=((4)*(j))+(3)) QJ M4 T7 rfl (by omega) (gS (Yk.storeB8 (i:=((4)*(j))+(3)) (v:=(s2.getD (j) 0).toUInt8) rfl rfl hb128l (by rw[List.length_set,List.length_set,List.length_set,Sha.outs_length _ ae _ (by omega)];omega) Ru fun dq b2 aw dr=> ?_)))
  have c:=kb aw c (by omega)
  have hE:=Aa hE aw (Nat.le_trans a8 (by omega))
  have h:=kb aw h (by omega)
  have m:=Aa m aw (Nat.le_trans a9 (by omega))
  have n:=AY n aw ba
  have t:=kb aw t (by omega)
  have u:=Aa u aw (Nat.le_trans (Nat.le_refl _) (by omega))
  clear hb128l
  have hb128l:=b2;clear b2
  have ds:=bl hb128l
  refine gS (Yk.bin (xv:=NI j) (yv:=NI 1) an rfl rfl (Ac _ _ _ (by omega)) (gK (And.intro ⟨j+1,T0,T2,T3,T4,T5,T7,ao,ap,bw,rfl,c,hE,h,m,n,t,u,AE hb128l (congrArg Lib.byteCells (Sha.outs_step s2 ae j bx)),by omega,trivial⟩ ?_)))
  show 8-(intOf (NI ((j)+(1)))).toNat<8-(intOf (cr 53)).toNat
  rw[q53]
  simp only[intOf,Int.toNat_natCast];omega
 refine gS (Yk.loadAll T7 hb128l QJ rfl (by rw[List.size_toArray,Lib.byteCells_length,Sha.outs_length _ ae _ (by omega)];exact N2) (gS (Yk.storeAll T2 (vr (AB (Sha.outs s2 j)) rfl) h (by rw[List.size_toArray,Lib.byteCells_length,Sha.outs_length _ ae _ (by omega)];rfl) (by rw[List.size_toArray,Lib.byteCells_length,Sha.outs_length _ ae _ (by omega)];exact N2) (Ai _) fun dt b3 a3 du=> ?_)))
 have c:=kb a3 c (by omega)
 have hE:=Aa hE a3 (Nat.le_trans (Nat.le_refl _) (by omega))
 clear m
 have n:=AY n a3 hap_v5_n2
 have t:=kb a3 t (by omega)
 clear u
 have hb128l:=kb a3 hb128l (by omega)
 clear h
 have h:=b3;clear b3
 have dv:=bl h
 refine IO rfl (ResF.row T2 h QJ rfl (by rw[List.size_toArray,Lib.byteCells_length,Sha.outs_length _ ae _ (by omega)];exact N2)) ?_
 refine⟨?_,hE⟩
 have e:Sha.outs s2 j=Sha.sum p:=by rw[show j=8 by omega,Sha.outs_all s2 ae,hat2.state,hQt];rfl
 rw[e]

open Go.RowKit
set_option maxRecDepth 100000
theorem HashAt.other{w w' :World}{g b:Nat}{p:List UInt8}(h:HashAt w g p)(hg:w.grownBy w' (some b))(hne:g≠b):HashAt w' g p:=by
 obtain⟨s,r,h1,h2⟩:=h
 exact⟨s,r,h1,(hg.block g (bl h2) (by simpa using hne)).trans h2⟩
theorem Ht(ls:List (List UInt8))(i:Nat)(hi:i<ls.length):(ls.take (i+1)).flatten=(ls.take i).flatten++ls.getD i []:=by
 rw[List.take_succ_eq_append_getElem hi,List.flatten_append]
 simp[hi]
theorem IZ(ls:List (List UInt8))(i:Nat)(hi:i<ls.length):(ls.take i).flatten.length+(ls.getD i []).length≤ls.flatten.length:=by
 have h1:=Ht ls i hi
 have h2:ls.flatten=(ls.take (i+1)).flatten++(ls.drop (i+1)).flatten:=by rw[←List.flatten_append,List.take_append_drop]
 rw[h2,h1]
 simp only[List.length_append]
 omega
theorem OI:AA Tryd.prog 38:=fun _ _=>by kernel_rfl
theorem JU:Tryd.prog.underlying 75=some (.slice 24):=by kernel_rfl
theorem OJ:∀w' :World,(sizeOf 24).run Tryd.prog w' = .ok 1 w' :=fun _=>by kernel_rfl
theorem OL:AA Tryd.prog 40:=fun _ _=>by kernel_rfl
theorem Jp(w:World)(g:Nat)(p:List UInt8)(hH:HashAt w g p)(v:Value)(hc:RB w v [])(hb:p.length<4611686018427387904):
  Calls Tryd.prog 39 #[PQ g 0,v] w fun e w' =>e = .returned (.tuple #[])∧HashAt w' g p∧w.grownBy w' (some g):=by
 obtain⟨s,r,hat,c⟩:=hH
 have hs:=hat.slen
 have hr:=hat.len
 obtain⟨f,hf⟩:∃f,f=p.length%64:=⟨_,rfl⟩
 rw[←hf]at c
 have hgr:w.grownBy w (some g):=World.grownBy.refl _ _
 refine gG (args:= [PQ g 0,v]) Tryd.func39 rfl 60 rfl rfl (gS (Yk.eqlNil sha6_ty76 rfl (cF rfl (gS (Yk.nilCheck rfl (gS (Yk.fieldAt sha6_fo125_3 rfl (gS (Yk.cell1 PJ rfl rfl (cellAt c (hashL_size hs hr)) (gS (Yk.lenRB EX (RB.of hc rfl) (gS (Yk.bin (xv:=NI p.length) (yv:=NI ((([]:List UInt8):List UInt8).length)) rfl rfl rfl (Ac _ _ _ (by simp;omega)) (gS (Yk.nilCheck rfl (gS (Yk.fieldAt sha6_fo125_3 rfl (gS (Yk.storeC (i:=73) (v:=NI ((p.length)+((([]:List UInt8):List UInt8).length))) rfl rfl c (by rw[Ce hs hr];omega) Ld rfl rfl fun h j k m=> ?_)))))))))))))))))))
 have hc:RB h v ([]:List UInt8):=RB.nilAny hc
 have hgr:w.grownBy h (some g):=A7 hgr k (fun _ e=> .inl e)
 clear c
 have c:=j;clear j
 have n:=bl c
 have c:h.heap[g]? =some (.cells (hashL s r f p.length).toArray 125 (0,0)):=AE c (G1 hs hr)
 refine gL (fun(ρ:Ae) (wz:World)=>ρ 0=(PQ g 0:Value)∧ρ 6=(.bool (false):Value)∧ρ 1=(v:Value)∧RB wz v ([]:List UInt8)∧w.grownBy wz (some g)∧wz.heap[g]? =some (.cells (hashL s r f p.length).toArray 125 (0,0))∧True) (fun ρ _=>0) ⟨rfl,rfl,rfl,hc,hgr,c,trivial⟩ ?_
 clear hc hgr c
 rintro o q ⟨t,u,l,hc,hgr,c,-⟩
 refine gS (Yk.lenRB EX (RB.of hc l) (gS (Yk.eqI (a:=((([]:List UInt8):List UInt8).length:Nat)) (b:=(0:Nat)) rfl rfl (Av _ _ _ _) (cF ((rfl).trans (congrArg Value.bool (decide_eq_false (by simp)))) (N0 rfl ?_)))))
 exact⟨rfl,⟨s,r,hat,by rw[←hf];exact c⟩,hgr⟩

theorem OM(w:World)(hG:Laid w)(g:Nat)(hh:1<g)(p:List UInt8)(hH:HashAt w g p)(v:Value)(c:List UInt8)(hc:RB w v c)(hv:0<c.length→v.ownBlock≠some g)(hb:p.length+c.length<4611686018427387904):
  Calls Tryd.prog 39 #[PQ g 0,v] w fun e w' =>e = .returned (.tuple #[])∧HashAt w' g (p++c)∧w.grownBy w' (some g):=by
 by_cases h0:0<c.length
 ·exact JT w hG g hh p hH v c hc (hv h0) hb
 ·have:c= []:=List.eq_nil_of_length_eq_zero (by omega)
  subst this
  rw[List.append_nil]
  exact Jp w g p hH v hc (by simpa using hb)

theorem Q2(w:World)(hG:Laid w)(v:Value)(ls:List (List UInt8))(hls:RBs w v ls)(hb:ls.flatten.length<1152921504606846976)(hlen:ls.length<1152921504606846976):
    Calls Tryd.prog 17 #[v] w fun e w' =>e = .returned (AB (Sha.sum ls.flatten))∧Ext w w' :=by
 have hw2:1<w.heap.size:=hG.two
 refine gG (args:= [v]) Tryd.func17 rfl 19 rfl rfl ?_
 have hE:=Ext.refl w
 refine gS (Yk.alloc PP fun g j ag p aa ah=> ?_)
 have c:=p;clear p
 have ai:g<j.heap.size:=by omega
 have hE:=hE.trans aa
 refine gS (Yk.callA0 OI ((Q1 _ (hG.keep hE)).mono ?_))
 rintro e aj ⟨gH,rfl,q,r,k⟩
 refine⟨_,rfl,?_⟩
 have f:=Ext.refl j
 have ab:=hE.size
 have ak:g<gH:=by have:=(bl c);omega
 have hE:=hE.trans k
 have c:=eb k c
 have f:=f.trans k
 refine gS (Yk.lenRBs JU (RBs.of (hls.keep hE) rfl) (gL (fun(ρ:Ae) (wz:World)=>∃i:Nat,ρ 0=(v:Value)∧ρ 2=(PQ g 0:Value)∧ρ 3=(PQ gH 0:Value)∧ρ 7=(v:Value)∧ρ 8=(NI ls.length:Value)∧ρ 9=(NI i:Value)∧Ext w wz∧wz.heap[g]? =some (.cells (Lib.byteCells (List.replicate 32 0)).toArray 38 (0,0))∧Ext j wz∧HashAt wz gH ((ls.take i).flatten)∧(i≤ls.length)∧True) (fun ρ _=>ls.length-(intOf (ρ 9)).toNat) ⟨0,rfl,rfl,rfl,rfl,rfl,rfl,hE,c,f,by simpa using r,Nat.zero_le _,trivial⟩ ?_))
 clear r
 clear hE c
 rintro ac al ⟨i,T0,l,m,s,t,h,hE,c,f,hHi,hi,-⟩
 have q9:=h
 refine gS (Yk.eqI (a:=(i:Nat)) (b:=(ls.length:Nat)) h t (Ah _ _ _ _) ?_)
 refine cD rfl (fun hi3=> ?_) fun hi3=> ?_
 ·refine gS (Yk.atRBs0 (ls:=ls) (i:=i) hE JU OJ hls s h (hi3) fun am ae u x=>(gS (Yk.loadC EX rfl (PCell.of u rfl) ?_)))
  clear u
  refine gS (Yk.callA2 OF m rfl ((OM _ (hG.keep hE) gH (by omega) ((ls.take i).flatten) hHi ae (ls.getD (i) []) (x.keep hE) (fun h0 hb=>by have:=RB.lt x h0 hb;omega) (by have:=IZ ls i hi3;omega)).mono ?_))
  rintro e an ⟨rfl,af,n⟩
  refine⟨_,rfl,?_⟩
  clear hHi
  have hE:=Aa hE n (Nat.le_trans ab q)
  have c:=kb n c (by omega)
  have f:=Aa f n (Nat.le_trans (Nat.le_refl _) q)
  refine gS (Yk.bin (xv:=NI i) (yv:=NI 1) h rfl rfl (Ac _ _ _ (by have:=hlen;omega)) (gK (And.intro ⟨i+1,T0,l,m,s,t,rfl,hE,c,f,(show HashAt _ _ _ from by rw[Ht ls i hi3];exact af),by omega,trivial⟩ ?_)))
  show ls.length-(intOf (NI ((i)+(1)))).toNat<ls.length-(intOf (ac 9)).toNat
  rw[q9]
  simp only[intOf,Int.toNat_natCast];omega
 have hfl:(ls.take i).flatten=ls.flatten:=by rw[List.take_of_length_le (by omega)]
 have hfl2:=congrArg List.length hfl
 refine gS (Yk.callA1 OL m ((OH _ (hG.keep hE) gH ((ls.take i).flatten) hHi (by omega)).mono ?_))
 rintro e ao ⟨rfl,o⟩
 refine⟨_,rfl,?_⟩
 have c:=eb o c
 refine gS (Yk.storeAll l (vr (AB (Sha.sum ((ls.take i).flatten))) rfl) c (by rw[List.size_toArray,Lib.byteCells_length,Sha.sum_length];rfl) (by rw[List.size_toArray,Lib.byteCells_length,Sha.sum_length];exact N2) (Ai _) fun ap y z aq=> ?_)
 clear f
 have hHi:=hHi.keep o
 have hHi:=HashAt.other hHi z (by omega)
 clear c
 have c:=y;clear y
 have ar:=bl c
 refine IO rfl (ResF.row l c QJ rfl (by rw[List.size_toArray,Lib.byteCells_length,Sha.sum_length];exact N2)) ?_
 rw[hfl]
 have hE:=hE.trans o
 have hE:=Aa hE z (Nat.le_trans (Nat.le_refl _) (by omega))
 exact⟨rfl,hE⟩
open Go.RowKit
set_option maxRecDepth 100000
namespace Sha
theorem tail_length(n:Nat):(tail n).length=9+(119-n%64)%64:=by
 simp[tail,be64]
 omega
theorem be4_of(P B:List UInt8)(a:Nat)(h:∀i,i<64→B.getD i 0=P.getD (a+i) 0)(t:Nat)(ht:t<16):
  (P.getD (a+4*t) 0).toUInt32<<<24|||(P.getD (a+4*t+1) 0).toUInt32<<<16|||(P.getD (a+4*t+2) 0).toUInt32<<<8|||(P.getD (a+4*t+3) 0).toUInt32=be4 B t:=by
 unfold be4
 rw[h _ (by omega),h _ (by omega),h _ (by omega),h _ (by omega)]
 simp only[Nat.add_assoc]
theorem added_comm:∀(v s:List UInt32),added v s=added s v
 | [],[]=>rfl
 | [],_ :: _=>rfl
 | _ :: _,[]=>rfl
 | a :: v,b :: s=>by
  have:=added_comm v s
  unfold added at this ⊢
  rw[List.zipWith_cons_cons,List.zipWith_cons_cons,this,UInt32.add_comm]
theorem add8{S T:List UInt32}(hS:S.length=8)(hT:T.length=8):adding S T 8=added T S:=by
 have:=adding_all S T (by omega)
 rw[hS]at this
 rw[this,added_comm]
end Sha
theorem ON:AA Tryd.prog 45:=fun _ _=>by kernel_rfl
theorem CN:AA Tryd.prog 46:=fun _ _=>by kernel_rfl
theorem OO:AA Tryd.prog 47:=fun _ _=>by kernel_rfl
set_option maxRecDepth 4000 in
set_option maxHeartbeats 1000000 in
theorem D1(w:World)(v:Value)(l:List UInt8)(hr:RB w v l)(hl:l.length≤70368744177664):
  Calls Tryd.prog 21 #[v] w fun e w' =>e = .returned (AB (Sha.sum l))∧Ext w w' :=by
 refine gG (args:= [v]) Tryd.func21 rfl 275 rfl rfl ?_
 have hE:=Ext.refl w
 refine gS (Yk.alloc PP fun n2 w3 d4 b3 c9 d5=> ?_)
 have c:=b3;clear b3
 have d6:n2<w3.heap.size:=by omega
 refine gS (Yk.run (v:= .agg (Sha.first.map fun x=>U x).toArray) (by kernel_rfl) (gS (Yk.alloc JI fun m da d7 b4 b5 d8=> ?_)))
 have f:=Ext.refl w3
 have hE:=hE.trans c9
 have ae:=hE.size
 have af:=b4;clear b4
 have d9:m<da.heap.size:=by omega
 refine gS (Yk.storeAll (vr (PQ m 0) rfl) (vr (.agg (Sha.first.map fun x=>U x).toArray) rfl) af (rfl) (DY) (Dj _) fun a0 b6 b7 ea=> ?_)
 clear af
 have af:=b6;clear b6
 have ec:=bl af
 have hE:=hE.trans b5
 have hE:=Aa hE b7 (Nat.le_trans ae (by omega))
 refine gS (Yk.callA1 ON rfl ((Nk _ v l (hr.keep hE) (by omega)).mono ?_))
 rintro e db ⟨y,rfl,ao⟩
 refine⟨_,rfl,?_⟩
 have f:=f.trans b5
 have f:=Aa f b7 (Nat.le_trans (Nat.le_refl _) (by omega))
 have ed:=hE.size
 have ee:=f.size
 have c:=eb f c
 have ah:OB y m:=EW ao.own (bl af)
 have g:=ao.own
 obtain⟨P,hP⟩:∃P,P=l++Sha.tail l.length:=⟨_,rfl⟩
 have g:db.ownsRow a0.heap.size 5 1 y (P:List UInt8).length (Lib.byteCells (P)):=(hP.symm:l++Sha.tail l.length=P)▸g
 have hPl:P.length=l.length+(Sha.tail l.length).length:=by rw[hP,List.length_append]
 obtain⟨K,hK⟩:∃K,P.length=64*K:=⟨P.length/64,by rw[hPl,Sha.tail_length];omega⟩
 have hPb:P.length<72057594037927936:=by rw[hPl,Sha.tail_length];omega
 have hE:=hE.trans ao.ext
 have c:=eb ao.ext c
 have f:=f.trans ao.ext
 have af:=eb ao.ext af
 refine gL (fun(ρ:Ae) (wz:World)=>∃j:Nat,ρ 0=(v:Value)∧ρ 2=(PQ n2 0:Value)∧ρ 3=(PQ m 0:Value)∧ρ 4=(y:Value)∧ρ 5=(NI (64*j):Value)∧Ext w wz∧wz.heap[n2]? =some (.cells (Lib.byteCells (List.replicate 32 0)).toArray 38 (0,0))∧Ext w3 wz∧wz.ownsRow a0.heap.size 5 1 y (P:List UInt8).length (Lib.byteCells (P))∧wz.heap[m]? =some (.cells ((Sha.blocks Sha.first P j).map fun x=>U x).toArray 88 (0,0))∧(j≤K)∧True) (fun ρ _=>P.length-(intOf (ρ 5)).toNat) ⟨0,rfl,rfl,rfl,rfl,rfl,hE,c,f,g,AE af (rfl),Nat.zero_le _,trivial⟩ ?_
 clear af
 clear hE c g
 rintro dc ak ⟨j,T0,u,h,p,o,hE,c,f,g,hb21l,hj,-⟩
 have q5:=o
 refine gS (Yk.lenRB EX (RB.of (RB.ofOwn g) p) (gS (Yk.eqI (a:=(64*j:Nat)) (b:=(P.length:Nat)) o rfl (Ah _ _ _ _) ?_)))
 refine cD rfl (fun dd=> ?_) fun dd=> ?_
 ·obtain⟨Sj,hSj⟩:∃Sj,Sj=Sha.blocks Sha.first P j:=⟨_,rfl⟩
  have hb21l:ak.heap[m]? =some (.cells (Sj.map fun x=>U x).toArray 88 (0,0)):=AE hb21l (by rw[hSj])
  have hSl:Sj.length=8:=by rw[hSj,Sha.blocks_length _ _ _ rfl]
  obtain⟨B,hB⟩:∃B,B=(P.drop (64*j)).take 64:=⟨_,rfl⟩
  have hBget:∀i,i<64→B.getD i 0=P.getD (64*j+i) 0:=fun i hi=>by rw[hB];simp[hi]
  refine gS (Yk.alloc JH fun ag de b8 b9 ap ef=> ?_)
  have k:=Ext.refl ak
  have ca:=hE.size
  have cb:=f.size
  have cc:=b9;clear b9
  have eg:ag<de.heap.size:=by omega
  have eh:=Aw (bl c) b8
  have c:=eb ap c
  have ei:=Aw (bl hb21l) b8
  have hb21l:=eb ap hb21l
  have cd:OB y ag:=AQ g (by omega)
  have g:=Stab.own _ _ _ _ _ _ _ _ g ap
  have hE:=hE.trans ap
  have f:=f.trans ap
  have k:=k.trans ap
  refine gL (fun(ρ:Ae) (wz:World)=>∃t:Nat,ρ 0=(v:Value)∧ρ 2=(PQ n2 0:Value)∧ρ 3=(PQ m 0:Value)∧ρ 4=(y:Value)∧ρ 5=(NI (64*j):Value)∧ρ 6=(PQ ag 0:Value)∧ρ 7=(NI t:Value)∧Ext w wz∧wz.heap[n2]? =some (.cells (Lib.byteCells (List.replicate 32 0)).toArray 38 (0,0))∧Ext w3 wz∧wz.ownsRow a0.heap.size 5 1 y (P:List UInt8).length (Lib.byteCells (P))∧wz.heap[m]? =some (.cells (Sj.map fun x=>U x).toArray 88 (0,0))∧Ext ak wz∧wz.heap[ag]? =some (.cells ((Sha.pad64 (Sha.sched B t)).map fun x=>U x).toArray 89 (0,0))∧(t≤64)∧True) (fun ρ _=>64-(intOf (ρ 7)).toNat) ⟨0,T0,u,h,p,o,rfl,rfl,hE,c,f,g,hb21l,k,AE cc (rfl),Nat.zero_le _,trivial⟩ ?_
  clear cc
  clear hE c f g hb21l
  rintro ce df ⟨t,T0,u,h,p,o,T6,n,hE,c,f,g,hb21l,k,hb62l,ht,-⟩
  have q7:=n
  have hpl:(Sha.pad64 (Sha.sched B t)).length=64:=Sha.pad64_length _ (by rw[Sha.sched_length];exact ht)
  refine gS (Yk.eqI (a:=(t:Nat)) (b:=(64:Nat)) n rfl (Ah _ _ _ _) ?_)
  refine cD rfl (fun cf=> ?_) fun cf=> ?_
  ·refine gS (Yk.eqI (a:=(t:Nat)) (b:=(16:Nat)) n rfl (Ah _ _ _ _) ?_)
   refine cD rfl (fun bk=> ?_) fun bk=> ?_
   ·refine Bw [0,1,2,3,4,5,6,7,8,9,10,11,12,13,14,15,16,17,18,19,20,21,22,23,24,25,26,27,28,29,30,31,32,33,34,35,36,37,38,39,40,41,42,43] [43] [] fun ej al=> ?_
    have g:=Stab.own _ _ _ _ _ _ _ _ g al
    have hb62l:=eb al hb62l
    refine ys (Yk.bin (xv:=NI 4) (yv:=NI t) rfl n rfl (A0 _ _ _ (by omega)) zz) (ys (Yk.bin (xv:=NI (64*j)) (yv:=NI ((4)*(t))) o rfl rfl (Ac _ _ _ (by omega)) zz) (yA (Yk.atRB (l:=P) (i:=(64*j)+((4)*(t))) EX M4 (RB.of (RB.ofOwn g) p) rfl (by omega) fun el cg=>(ys (Yk.loadC u5 rfl (PCell.of cg rfl) zz) (ys (Yk.wide u5 AL rfl zz) (ys (Yk.bin rfl rfl rfl (FO _ _ _ 24 (by decide)) zz) (ys (Yk.bin (xv:=NI 4) (yv:=NI t) rfl n rfl (A0 _ _ _ (by omega)) zz) (ys (Yk.bin (xv:=NI (64*j)) (yv:=NI ((4)*(t))) o rfl rfl (Ac _ _ _ (by omega)) zz) (ys (Yk.bin (xv:=NI ((64*j)+((4)*(t)))) (yv:=NI 1) rfl rfl rfl (Ac _ _ _ (by omega)) zz) (yA (Yk.atRB (l:=P) (i:=((64*j)+((4)*(t)))+(1)) EX M4 (RB.of (RB.ofOwn g) p) rfl (by omega) fun em ch=>(ys (Yk.loadC u5 rfl (PCell.of ch rfl) zz) (ys (Yk.wide u5 AL rfl zz) (ys (Yk.bin rfl rfl rfl (FO _ _ _ 16 (by decide)) zz) (ys (Yk.bin rfl rfl rfl (Ha _ _ _) zz) (ys (Yk.bin (xv:=NI 4) (yv:=NI t) rfl n rfl (A0 _ _ _ (by omega)) zz) (ys (Yk.bin (xv:=NI (64*j)) (yv:=NI ((4)*(t))) o rfl rfl (Ac _ _ _ (by omega)) zz) ?_)))))))))))))))))
    refine ys (Yk.bin (xv:=NI ((64*j)+((4)*(t)))) (yv:=NI 2) rfl rfl rfl (Ac _ _ _ (by omega)) zz) (yA (Yk.atRB (l:=P) (i:=((64*j)+((4)*(t)))+(2)) EX M4 (RB.of (RB.ofOwn g) p) rfl (by omega) fun en ci=>(ys (Yk.loadC u5 rfl (PCell.of ci rfl) zz) (ys (Yk.wide u5 AL rfl zz) (ys (Yk.bin rfl rfl rfl (FO _ _ _ 8 (by decide)) zz) (ys (Yk.bin rfl rfl rfl (Ha _ _ _) zz) (ys (Yk.bin (xv:=NI 4) (yv:=NI t) rfl n rfl (A0 _ _ _ (by omega)) zz) (ys (Yk.bin (xv:=NI (64*j)) (yv:=NI ((4)*(t))) o rfl rfl (Ac _ _ _ (by omega)) zz) (ys (Yk.bin (xv:=NI ((64*j)+((4)*(t)))) (yv:=NI 3) rfl rfl rfl (Ac _ _ _ (by omega)) zz) (yA (Yk.atRB (l:=P) (i:=((64*j)+((4)*(t)))+(3)) EX M4 (RB.of (RB.ofOwn g) p) rfl (by omega) fun eo cj=>(ys (Yk.loadC u5 rfl (PCell.of cj rfl) zz) (ys (Yk.wide u5 AL rfl zz) (ys (Yk.bin rfl rfl rfl (Ha _ _ _) zz) (ys (Yk.atArr0 (i:=t) CK AM T6 n (by omega) zz) (yC (Yk.storeU32 (i:=t) (v:=(((((P.getD ((64*j)+((4)*(t))) 0).toUInt32)<<<24)|||(((P.getD (((64*j)+((4)*(t)))+(1)) 0).toUInt32)<<<16))|||(((P.getD (((64*j)+((4)*(t)))+(2)) 0).toUInt32)<<<8))|||((P.getD (((64*j)+((4)*(t)))+(3)) 0).toUInt32)) rfl rfl hb62l (by rw[hpl];omega) GD fun dg ck aq ep=> ?_)))))))))))))))))
    clear cg
    clear ch
    clear ci
    clear cj
    clear hb62l
    have hb62l:=ck;clear ck
    have eq:=bl hb62l
    have hb62l:dg.heap[ag]? =some (.cells ((Sha.pad64 (Sha.sched B (t+1))).map fun x=>U x).toArray 89 (0,0)):=AE hb62l (congrArg (List.map fun x=>U x) ((congrArg (fun z=>(Sha.pad64 (Sha.sched B t)).set t z) (Sha.be4_of P B (64*j) hBget t bk)).trans (Sha.sched_step1 B t bk)))
    have hE:=hE.trans al
    have hE:=Aa hE aq (Nat.le_trans ca (by omega))
    have c:=eb al c
    have c:=kb aq c (by omega)
    have f:=f.trans al
    have f:=Aa f aq (Nat.le_trans cb (by omega))
    have hb21l:=eb al hb21l
    have hb21l:=kb aq hb21l (by omega)
    have k:=k.trans al
    have k:=Aa k aq (Nat.le_trans (Nat.le_refl _) (by omega))
    have g:=AY g aq cd
    refine gS (Yk.bin (xv:=NI t) (yv:=NI 1) n rfl rfl (Ac _ _ _ (by omega)) (gK (And.intro ⟨t+1,T0,u,h,p,o,T6,rfl,hE,c,f,g,hb21l,k,AE hb62l (rfl),by omega,trivial⟩ ?_)))
    show 64-(intOf (NI ((t)+(1)))).toNat<64-(intOf (ce 7)).toNat
    rw[q7]
    simp only[intOf,Int.toNat_natCast];omega
   refine Bw [0,1,2,3,4,5,6,7,8,9] [] [] fun er cl=> ?_
   have hb62l:=eb cl hb62l
   refine ys (Yk.bin (xv:=NI t) (yv:=NI 15) n rfl rfl (Ay _ _ _ (by omega) (by omega)) zz) (ys (Yk.atArr0 (i:=(t)-(15)) CK AM T6 rfl (by omega) zz) (ys (Yk.cell1 AL rfl rfl (cellAt hb62l (AD (i:=(t)-(15)) (by rw[hpl];omega))) zz) (ys (Yk.bin (xv:=NI t) (yv:=NI 2) n rfl rfl (Ay _ _ _ (by omega) (by omega)) zz) (ys (Yk.atArr0 (i:=(t)-(2)) CK AM T6 rfl (by omega) zz) (ys (Yk.cell1 AL rfl rfl (cellAt hb62l (AD (i:=(t)-(2)) (by rw[hpl];omega))) zz) (DC [0,1,3,6,7,9,10,11,12,14,16,19,20,23,24,25,26,2,4,5,8,13,15,17,18,21,22,27,28,29] [2,4,15,17,29] [5,7,8,10,11,13,20,24,25] [12,26] fun dh cm=> ?_))))))
   have a4:=Ext.refl dh
   have hb62l:=eb cm hb62l
   refine C3 a4 ?_
   refine yp (Yk.bin rfl rfl rfl (Ei _ _ _ 10 (by decide)) zz) (yp (Yk.bin (xv:=NI t) (yv:=NI 7) n rfl rfl (Ay _ _ _ (by omega) (by omega)) zz) (yp (Yk.atArr0 (i:=(t)-(7)) CK AM T6 rfl (by omega) zz) (yf (fun _ ⟨hZ,_⟩=>Yk.cell1 AL rfl rfl (cellAt (eb hZ hb62l) (AD (i:=(t)-(7)) (by rw[hpl];omega))) zz) (yp (Yk.bin rfl rfl rfl (Ei _ _ _ 3 (by decide)) zz) (yp (Yk.bin (xv:=NI t) (yv:=NI 16) n rfl rfl (Ay _ _ _ (by omega) (by omega)) zz) (yp (Yk.atArr0 (i:=(t)-(16)) CK AM T6 rfl (by omega) zz) (yf (fun _ ⟨hZ,_⟩=>Yk.cell1 AL rfl rfl (cellAt (eb hZ hb62l) (AD (i:=(t)-(16)) (by rw[hpl];omega))) zz) (yE (Yk.callA2 CN rfl rfl ((Dw _ ((Sha.pad64 (Sha.sched B t)).getD ((t)-(2)) 0) 17 (by decide) (by decide)).mono ?_))))))))))
   rintro e di ⟨rfl,bm⟩
   refine⟨_,rfl,?_⟩
   have a4:=a4.trans bm
   refine⟨a4,?_⟩
   have bn:=Ext.refl di
   refine yE (Yk.callA2 CN rfl rfl ((Dw _ ((Sha.pad64 (Sha.sched B t)).getD ((t)-(2)) 0) 19 (by decide) (by decide)).mono ?_))
   rintro e dj ⟨rfl,bo⟩
   refine⟨_,rfl,?_⟩
   have bn:=bn.trans bo
   refine⟨bn,?_⟩
   have bp:=Ext.refl dj
   refine yp (Yk.bin rfl rfl rfl (Cm _ _ _) zz) (yp (Yk.bin rfl rfl rfl (Cm _ _ _) zz) (yp (Yk.bin rfl rfl rfl (BF _ _ _) zz) (yE (Yk.callA2 CN rfl rfl ((Dw _ ((Sha.pad64 (Sha.sched B t)).getD ((t)-(15)) 0) 7 (by decide) (by decide)).mono ?_)))))
   rintro e dk ⟨rfl,bq⟩
   refine⟨_,rfl,?_⟩
   have bp:=bp.trans bq
   refine⟨bp,?_⟩
   have br:=Ext.refl dk
   refine yE (Yk.callA2 CN rfl rfl ((Dw _ ((Sha.pad64 (Sha.sched B t)).getD ((t)-(15)) 0) 18 (by decide) (by decide)).mono ?_))
   rintro e es ⟨rfl,bs⟩
   refine⟨_,rfl,?_⟩
   have br:=br.trans bs
   refine⟨br,?_⟩
   have hb62l:=eb (((bm.trans bo).trans bq).trans bs) hb62l
   refine ys (Yk.bin rfl rfl rfl (Cm _ _ _) zz) (ys (Yk.bin rfl rfl rfl (Cm _ _ _) zz) (ys (Yk.bin rfl rfl rfl (BF _ _ _) zz) (ys (Yk.bin rfl rfl rfl (BF _ _ _) zz) (ys (Yk.atArr0 (i:=t) CK AM T6 n (by omega) zz) (yD rfl (Yk.storeU32 (i:=t) (v:=(((((Sha.rotr ((Sha.pad64 (Sha.sched B t)).getD ((t)-(2)) 0) 17)^^^(Sha.rotr ((Sha.pad64 (Sha.sched B t)).getD ((t)-(2)) 0) 19))^^^(((Sha.pad64 (Sha.sched B t)).getD ((t)-(2)) 0)>>>10))+((Sha.pad64 (Sha.sched B t)).getD ((t)-(7)) 0))+(((Sha.rotr ((Sha.pad64 (Sha.sched B t)).getD ((t)-(15)) 0) 7)^^^(Sha.rotr ((Sha.pad64 (Sha.sched B t)).getD ((t)-(15)) 0) 18))^^^(((Sha.pad64 (Sha.sched B t)).getD ((t)-(15)) 0)>>>3)))+((Sha.pad64 (Sha.sched B t)).getD ((t)-(16)) 0)) rfl rfl hb62l (by rw[hpl];omega) GD fun dl cn ar et=> ?_))))))
   clear hb62l
   have hb62l:=cn;clear cn
   have eu:=bl hb62l
   have hb62l:dl.heap[ag]? =some (.cells ((Sha.pad64 (Sha.sched B (t+1))).map fun x=>U x).toArray 89 (0,0)):=AE hb62l (congrArg (List.map fun x=>U x) (Sha.sched_step2 B t (by omega) cf))
   have hZ1:=((((cl.trans cm).trans bm).trans bo).trans bq).trans bs
   have hE:=hE.trans hZ1
   have hE:=Aa hE ar (Nat.le_trans ca (by omega))
   have c:=eb hZ1 c
   have c:=kb ar c (by omega)
   have f:=f.trans hZ1
   have f:=Aa f ar (Nat.le_trans cb (by omega))
   have g:=Stab.own _ _ _ _ _ _ _ _ g hZ1
   have g:=AY g ar cd
   have hb21l:=eb hZ1 hb21l
   have hb21l:=kb ar hb21l (by omega)
   have k:=k.trans hZ1
   have k:=Aa k ar (Nat.le_trans (Nat.le_refl _) (by omega))
   refine gS (Yk.bin (xv:=NI t) (yv:=NI 1) n rfl rfl (Ac _ _ _ (by omega)) (gK (And.intro ⟨t+1,T0,u,h,p,o,T6,rfl,hE,c,f,g,hb21l,k,AE hb62l (rfl),by omega,trivial⟩ ?_)))
   show 64-(intOf (NI ((t)+(1)))).toNat<64-(intOf (ce 7)).toNat
   rw[q7]
   simp only[intOf,Int.toNat_natCast];omega
  obtain⟨F,hF⟩:∃F,F=Sha.sched B 64:=⟨_,rfl⟩
  have hb62l:df.heap[ag]? =some (.cells (F.map fun x=>U x).toArray 89 (0,0)):=AE hb62l (by rw[show t=64 by omega,←hF,Sha.pad64_full _ (by rw[hF,Sha.sched_length])])
  have hFl:F.length=64:=by rw[hF,Sha.sched_length]
  refine Bw [0,1,2,3,4,5,6,7,8,9,10,11,12,13,14,15,16,17,18,19,20,21,22,23] [] [] fun ew am=> ?_
  have hE:=hE.trans am
  have c:=eb am c
  have f:=f.trans am
  have g:=Stab.own _ _ _ _ _ _ _ _ g am
  have hb21l:=eb am hb21l
  have k:=k.trans am
  have hb62l:=eb am hb62l
  refine ys (Yk.atArr0 (i:=0) AV AM h rfl (by omega) zz) (ys (Yk.cell1 AL rfl rfl (cellAt hb21l (AD (i:=0) (by rw[hSl];omega))) zz) (ys (Yk.atArr0 (i:=1) AV AM h rfl (by omega) zz) (ys (Yk.cell1 AL rfl rfl (cellAt hb21l (AD (i:=1) (by rw[hSl];omega))) zz) (ys (Yk.atArr0 (i:=2) AV AM h rfl (by omega) zz) (ys (Yk.cell1 AL rfl rfl (cellAt hb21l (AD (i:=2) (by rw[hSl];omega))) zz) (ys (Yk.atArr0 (i:=3) AV AM h rfl (by omega) zz) (ys (Yk.cell1 AL rfl rfl (cellAt hb21l (AD (i:=3) (by rw[hSl];omega))) zz) (ys (Yk.atArr0 (i:=4) AV AM h rfl (by omega) zz) (ys (Yk.cell1 AL rfl rfl (cellAt hb21l (AD (i:=4) (by rw[hSl];omega))) zz) (ys (Yk.atArr0 (i:=5) AV AM h rfl (by omega) zz) (ys (Yk.cell1 AL rfl rfl (cellAt hb21l (AD (i:=5) (by rw[hSl];omega))) zz) (ys (Yk.atArr0 (i:=6) AV AM h rfl (by omega) zz) (ys (Yk.cell1 AL rfl rfl (cellAt hb21l (AD (i:=6) (by rw[hSl];omega))) zz) (ys (Yk.atArr0 (i:=7) AV AM h rfl (by omega) zz) (ys (Yk.cell1 AL rfl rfl (cellAt hb21l (AD (i:=7) (by rw[hSl];omega))) zz) ?_)))))))))))))))
  refine gL (fun(ρ:Ae) (wz:World)=>∃r:Nat,ρ 0=(v:Value)∧ρ 2=(PQ n2 0:Value)∧ρ 3=(PQ m 0:Value)∧ρ 4=(y:Value)∧ρ 5=(NI (64*j):Value)∧ρ 6=(PQ ag 0:Value)∧ρ 7=(NI t:Value)∧ρ 18=(NI r:Value)∧ρ 10=(U ((Sha.turned Sj F r).getD 0 0):Value)∧ρ 11=(U ((Sha.turned Sj F r).getD 1 0):Value)∧ρ 12=(U ((Sha.turned Sj F r).getD 2 0):Value)∧ρ 13=(U ((Sha.turned Sj F r).getD 3 0):Value)∧ρ 14=(U ((Sha.turned Sj F r).getD 4 0):Value)∧ρ 15=(U ((Sha.turned Sj F r).getD 5 0):Value)∧ρ 16=(U ((Sha.turned Sj F r).getD 6 0):Value)∧ρ 17=(U ((Sha.turned Sj F r).getD 7 0):Value)∧Ext w wz∧wz.heap[n2]? =some (.cells (Lib.byteCells (List.replicate 32 0)).toArray 38 (0,0))∧Ext w3 wz∧wz.ownsRow a0.heap.size 5 1 y (P:List UInt8).length (Lib.byteCells (P))∧wz.heap[m]? =some (.cells (Sj.map fun x=>U x).toArray 88 (0,0))∧Ext ak wz∧wz.heap[ag]? =some (.cells (F.map fun x=>U x).toArray 89 (0,0))∧(r≤64)∧True) (fun ρ _=>64-(intOf (ρ 18)).toNat) ⟨0,T0,u,h,p,o,T6,n,rfl,rfl,rfl,rfl,rfl,rfl,rfl,rfl,rfl,hE,c,f,g,hb21l,k,hb62l,Nat.zero_le _,trivial⟩ ?_
  clear hE c f g hb21l k hb62l
  rintro dm ex ⟨r,T0,u,h,p,o,T6,n,a1,ai,a2,a3,bt,aj,a5,a6,bu,hE,c,f,g,hb21l,k,hb62l,ey,-⟩
  have q18:=a1
  refine gS (Yk.eqI (a:=(r:Nat)) (b:=(64:Nat)) a1 rfl (Ah _ _ _ _) ?_)
  refine cD rfl (fun dn=> ?_) fun dn=> ?_
  ·refine DC [0,1,3,6,10,11,12,13,14,15,16,17,19,22,23,24,2,4,5,7,8,9,18,20,21,25,26] [2,4,7,20] [5,8,9,12,14,16,17,18,23] [24] fun dp co=> ?_
   have a7:=Ext.refl dp
   have hb62l:=eb co hb62l
   refine C3 a7 ?_
   refine yp (Yk.bin aj a5 rfl (ER _ _ _) zz) (yp (Yk.not32 aj zz) (yp (Yk.bin rfl a6 rfl (ER _ _ _) zz) (yp (Yk.bin rfl rfl rfl (Cm _ _ _) zz) (yp (Yk.atArr0 (i:=r) CK AM T6 a1 (by omega) zz) (yf (fun _ ⟨hZ,_⟩=>Yk.cell1 AL rfl rfl (cellAt (eb hZ hb62l) (AD (i:=r) (by rw[hFl];omega))) zz) (yE (Yk.callA2 CN aj rfl ((Dw _ ((Sha.turned Sj F r).getD 4 0) 6 (by decide) (by decide)).mono ?_))))))))
   rintro e dq ⟨rfl,bv⟩
   refine⟨_,rfl,?_⟩
   have a7:=a7.trans bv
   refine⟨a7,?_⟩
   have bw:=Ext.refl dq
   refine yE (Yk.callA2 CN aj rfl ((Dw _ ((Sha.turned Sj F r).getD 4 0) 11 (by decide) (by decide)).mono ?_))
   rintro e dr ⟨rfl,bx⟩
   refine⟨_,rfl,?_⟩
   have bw:=bw.trans bx
   refine⟨bw,?_⟩
   have bz:=Ext.refl dr
   refine yp (Yk.bin rfl rfl rfl (Cm _ _ _) zz) (yE (Yk.callA2 CN aj rfl ((Dw _ ((Sha.turned Sj F r).getD 4 0) 25 (by decide) (by decide)).mono ?_)))
   rintro e ds ⟨rfl,b0⟩
   refine⟨_,rfl,?_⟩
   have bz:=bz.trans b0
   refine⟨bz,?_⟩
   have b1:=Ext.refl ds
   refine yp (Yk.bin rfl rfl rfl (Cm _ _ _) zz) (yp (Yk.bin bu rfl rfl (BF _ _ _) zz) (yp (Yk.bin rfl rfl rfl (BF _ _ _) zz) (yE (Yk.callA1 OO a1 ((Q0 _ (r) (by omega)).mono ?_)))))
   rintro e ez ⟨rfl,b2⟩
   refine⟨_,rfl,?_⟩
   have b1:=b1.trans b2
   refine⟨b1,?_⟩
   refine ys (Yk.bin rfl rfl rfl (BF _ _ _) zz) (ys (Yk.bin rfl rfl rfl (BF _ _ _) zz) (gS (Yk.callA2 CN ai rfl ((Dw _ ((Sha.turned Sj F r).getD 0 0) 2 (by decide) (by decide)).mono ?_))))
   rintro e e0 ⟨rfl,cp⟩
   refine⟨_,rfl,?_⟩
   refine gS (Yk.callA2 CN ai rfl ((Dw _ ((Sha.turned Sj F r).getD 0 0) 13 (by decide) (by decide)).mono ?_))
   rintro e e1 ⟨rfl,cq⟩
   refine⟨_,rfl,?_⟩
   refine gS (Yk.bin rfl rfl rfl (Cm _ _ _) (gS (Yk.callA2 CN ai rfl ((Dw _ ((Sha.turned Sj F r).getD 0 0) 22 (by decide) (by decide)).mono ?_))))
   rintro e e2 ⟨rfl,cr⟩
   refine⟨_,rfl,?_⟩
   have hZ2:=((((((co.trans bv).trans bx).trans b0).trans b2).trans cp).trans cq).trans cr
   have hE:=hE.trans hZ2
   have c:=eb hZ2 c
   have f:=f.trans hZ2
   have g:=Stab.own _ _ _ _ _ _ _ _ g hZ2
   have hb21l:=eb hZ2 hb21l
   have k:=k.trans hZ2
   have hb62l:=eb ((((((bv.trans bx).trans b0).trans b2).trans cp).trans cq).trans cr) hb62l
   refine gS (Yk.bin rfl rfl rfl (Cm _ _ _) (gS (Yk.bin ai a2 rfl (ER _ _ _) (gS (Yk.bin ai a3 rfl (ER _ _ _) (gS (Yk.bin rfl rfl rfl (Cm _ _ _) (gS (Yk.bin a2 a3 rfl (ER _ _ _) (gS (Yk.bin rfl rfl rfl (Cm _ _ _) (gS (Yk.bin rfl rfl rfl (BF _ _ _) (gS (Yk.bin bt rfl rfl (BF _ _ _) (gS (Yk.bin rfl rfl rfl (BF _ _ _) (gS (Yk.bin (xv:=NI r) (yv:=NI 1) a1 rfl rfl (Ac _ _ _ (by omega)) (gK (And.intro ⟨r+1,T0,u,h,p,o,T6,n,rfl,rfl.trans (congrArg (fun z=>U z) (UInt32.add_assoc _ _ _).symm),ai,a2,a3,rfl,aj,a5,a6,hE,c,f,g,hb21l,k,hb62l,by omega,trivial⟩ ?_)))))))))))))))))))))
   show 64-(intOf (NI ((r)+(1)))).toNat<64-(intOf (dm 18)).toNat
   rw[q18]
   simp only[intOf,Int.toNat_natCast];omega
  obtain⟨T,hT⟩:∃T,T=Sha.turned Sj F 64:=⟨_,rfl⟩
  have hTl:T.length=8:=by rw[hT,Sha.turned_length _ _ hSl]
  have hr64e:r=64:=by omega
  rw[hr64e,←hT]at ai a2 a3 bt aj a5 a6 bu
  refine gS (Yk.atArr0 (i:=0) AV AM h rfl (by omega) (gS (Yk.cell1 AL rfl rfl (cellAt hb21l (AD (i:=0) (by rw[hSl];omega))) (gS (Yk.bin rfl ai rfl (BF _ _ _) (gS (Yk.atArr0 (i:=0) AV AM h rfl (by omega) (gS (Yk.storeU32 (i:=0) (v:=((Sj).getD (0) 0)+(T.getD 0 0)) rfl rfl hb21l (by rw[hSl];omega) GD fun dt cs a8 e3=> ?_)))))))))
  clear k
  clear hb21l
  have hb21l:=cs;clear cs
  have e4:=bl hb21l
  have hb21l:dt.heap[m]? =some (.cells ((Sha.adding Sj T 1).map fun x=>U x).toArray 88 (0,0)):=AE hb21l (rfl)
  refine gS (Yk.atArr0 (i:=1) AV AM h rfl (by omega) (gS (Yk.cell1 AL rfl rfl (cellAt hb21l (AD (i:=1) (by rw[Sha.adding_length,hSl];omega))) (gS (Yk.bin rfl a2 rfl (BF _ _ _) (gS (Yk.atArr0 (i:=1) AV AM h rfl (by omega) (gS (Yk.storeU32 (i:=1) (v:=((Sha.adding Sj T 1).getD (1) 0)+(T.getD 1 0)) rfl rfl hb21l (by rw[Sha.adding_length,hSl];omega) GD fun du ct a9 e5=> ?_)))))))))
  clear hb21l
  have hb21l:=ct;clear ct
  have e6:=bl hb21l
  have hb21l:du.heap[m]? =some (.cells ((Sha.adding Sj T 2).map fun x=>U x).toArray 88 (0,0)):=AE hb21l (rfl)
  refine gS (Yk.atArr0 (i:=2) AV AM h rfl (by omega) (gS (Yk.cell1 AL rfl rfl (cellAt hb21l (AD (i:=2) (by rw[Sha.adding_length,hSl];omega))) (gS (Yk.bin rfl a3 rfl (BF _ _ _) (gS (Yk.atArr0 (i:=2) AV AM h rfl (by omega) (gS (Yk.storeU32 (i:=2) (v:=((Sha.adding Sj T 2).getD (2) 0)+(T.getD 2 0)) rfl rfl hb21l (by rw[Sha.adding_length,hSl];omega) GD fun dv cu ba e7=> ?_)))))))))
  clear hb21l
  have hb21l:=cu;clear cu
  have e8:=bl hb21l
  have hb21l:dv.heap[m]? =some (.cells ((Sha.adding Sj T 3).map fun x=>U x).toArray 88 (0,0)):=AE hb21l (rfl)
  refine gS (Yk.atArr0 (i:=3) AV AM h rfl (by omega) (gS (Yk.cell1 AL rfl rfl (cellAt hb21l (AD (i:=3) (by rw[Sha.adding_length,hSl];omega))) (gS (Yk.bin rfl bt rfl (BF _ _ _) (gS (Yk.atArr0 (i:=3) AV AM h rfl (by omega) (gS (Yk.storeU32 (i:=3) (v:=((Sha.adding Sj T 3).getD (3) 0)+(T.getD 3 0)) rfl rfl hb21l (by rw[Sha.adding_length,hSl];omega) GD fun dw cv bb e9=> ?_)))))))))
  clear hb21l
  have hb21l:=cv;clear cv
  have fa:=bl hb21l
  have hb21l:dw.heap[m]? =some (.cells ((Sha.adding Sj T 4).map fun x=>U x).toArray 88 (0,0)):=AE hb21l (rfl)
  refine gS (Yk.atArr0 (i:=4) AV AM h rfl (by omega) (gS (Yk.cell1 AL rfl rfl (cellAt hb21l (AD (i:=4) (by rw[Sha.adding_length,hSl];omega))) (gS (Yk.bin rfl aj rfl (BF _ _ _) (gS (Yk.atArr0 (i:=4) AV AM h rfl (by omega) (gS (Yk.storeU32 (i:=4) (v:=((Sha.adding Sj T 4).getD (4) 0)+(T.getD 4 0)) rfl rfl hb21l (by rw[Sha.adding_length,hSl];omega) GD fun dx cw bc fb=> ?_)))))))))
  clear hb21l
  have hb21l:=cw;clear cw
  have fc:=bl hb21l
  have hb21l:dx.heap[m]? =some (.cells ((Sha.adding Sj T 5).map fun x=>U x).toArray 88 (0,0)):=AE hb21l (rfl)
  refine gS (Yk.atArr0 (i:=5) AV AM h rfl (by omega) (gS (Yk.cell1 AL rfl rfl (cellAt hb21l (AD (i:=5) (by rw[Sha.adding_length,hSl];omega))) (gS (Yk.bin rfl a5 rfl (BF _ _ _) (gS (Yk.atArr0 (i:=5) AV AM h rfl (by omega) (gS (Yk.storeU32 (i:=5) (v:=((Sha.adding Sj T 5).getD (5) 0)+(T.getD 5 0)) rfl rfl hb21l (by rw[Sha.adding_length,hSl];omega) GD fun dy cx bd fd=> ?_)))))))))
  clear hb21l
  have hb21l:=cx;clear cx
  have fe:=bl hb21l
  have hb21l:dy.heap[m]? =some (.cells ((Sha.adding Sj T 6).map fun x=>U x).toArray 88 (0,0)):=AE hb21l (rfl)
  refine gS (Yk.atArr0 (i:=6) AV AM h rfl (by omega) (gS (Yk.cell1 AL rfl rfl (cellAt hb21l (AD (i:=6) (by rw[Sha.adding_length,hSl];omega))) (gS (Yk.bin rfl a6 rfl (BF _ _ _) (gS (Yk.atArr0 (i:=6) AV AM h rfl (by omega) (gS (Yk.storeU32 (i:=6) (v:=((Sha.adding Sj T 6).getD (6) 0)+(T.getD 6 0)) rfl rfl hb21l (by rw[Sha.adding_length,hSl];omega) GD fun dz cy be ff=> ?_)))))))))
  clear hb21l
  have hb21l:=cy;clear cy
  have fg:=bl hb21l
  have hb21l:dz.heap[m]? =some (.cells ((Sha.adding Sj T 7).map fun x=>U x).toArray 88 (0,0)):=AE hb21l (rfl)
  refine gS (Yk.atArr0 (i:=7) AV AM h rfl (by omega) (gS (Yk.cell1 AL rfl rfl (cellAt hb21l (AD (i:=7) (by rw[Sha.adding_length,hSl];omega))) (gS (Yk.bin rfl bu rfl (BF _ _ _) (gS (Yk.atArr0 (i:=7) AV AM h rfl (by omega) (gS (Yk.storeU32 (i:=7) (v:=((Sha.adding Sj T 7).getD (7) 0)+(T.getD 7 0)) rfl rfl hb21l (by rw[Sha.adding_length,hSl];omega) GD fun d0 cz bf fh=> ?_)))))))))
  clear hb21l
  have hb21l:=cz;clear cz
  have fi:=bl hb21l
  have hb21l:d0.heap[m]? =some (.cells ((Sha.adding Sj T 8).map fun x=>U x).toArray 88 (0,0)):=AE hb21l (rfl)
  have hE:=Aa hE a8 (Nat.le_trans ae (by omega))
  have hE:=Aa hE a9 (Nat.le_trans ae (by omega))
  have hE:=Aa hE ba (Nat.le_trans ae (by omega))
  have hE:=Aa hE bb (Nat.le_trans ae (by omega))
  have hE:=Aa hE bc (Nat.le_trans ae (by omega))
  have hE:=Aa hE bd (Nat.le_trans ae (by omega))
  have hE:=Aa hE be (Nat.le_trans ae (by omega))
  have hE:=Aa hE bf (Nat.le_trans ae (by omega))
  have c:=kb a8 c (by omega)
  have c:=kb a9 c (by omega)
  have c:=kb ba c (by omega)
  have c:=kb bb c (by omega)
  have c:=kb bc c (by omega)
  have c:=kb bd c (by omega)
  have c:=kb be c (by omega)
  have c:=kb bf c (by omega)
  have f:=Aa f a8 (Nat.le_trans (Nat.le_refl _) (by omega))
  have f:=Aa f a9 (Nat.le_trans (Nat.le_refl _) (by omega))
  have f:=Aa f ba (Nat.le_trans (Nat.le_refl _) (by omega))
  have f:=Aa f bb (Nat.le_trans (Nat.le_refl _) (by omega))
  have f:=Aa f bc (Nat.le_trans (Nat.le_refl _) (by omega))
  have f:=Aa f bd (Nat.le_trans (Nat.le_refl _) (by omega))
  have f:=Aa f be (Nat.le_trans (Nat.le_refl _) (by omega))
  have f:=Aa f bf (Nat.le_trans (Nat.le_refl _) (by omega))
  have g:=AY g a8 ah
  have g:=AY g a9 ah
  have g:=AY g ba ah
  have g:=AY g bb ah
  have g:=AY g bc ah
  have g:=AY g bd ah
  have g:=AY g be ah
  have g:=AY g bf ah
  refine gS (Yk.bin (xv:=NI (64*j)) (yv:=NI 64) o rfl rfl (Ac _ _ _ (by omega)) (gK (And.intro ⟨j+1,T0,u,h,p,rfl,hE,c,f,g,AE hb21l (congrArg (List.map fun x=>U x) (by rw[Sha.add8 hSl hTl,hT,hF,Sha.blocks_snoc,←hSj,←hB];rfl)),by omega,trivial⟩ ?_)))
  show P.length-(intOf (NI ((64*j)+(64)))).toNat<P.length-(intOf (dc 5)).toNat
  rw[q5]
  simp only[intOf,Int.toNat_natCast];omega
 obtain⟨Sf,hSe⟩:∃Sf,Sf=Sha.blocks Sha.first P j:=⟨_,rfl⟩
 have hb21l:ak.heap[m]? =some (.cells (Sf.map fun x=>U x).toArray 88 (0,0)):=AE hb21l (by rw[hSe])
 have hSf:Sf.length=8:=by rw[hSe,Sha.blocks_length _ _ _ rfl]
 have hjK:j=P.length/64:=by omega
 refine gS (Yk.alloc PP fun bg d1 c0 c1 au fj=> ?_)
 have s:=Ext.refl ak
 have bh:=hE.size
 have bi:=f.size
 have c2:=c1;clear c1
 have fk:bg<d1.heap.size:=by omega
 have fl:=Aw (bl c) c0
 have c:=eb au c
 have fm:=Aw (bl hb21l) c0
 have hb21l:=eb au hb21l
 have bj:OB y bg:=AQ g (by omega)
 have g:=Stab.own _ _ _ _ _ _ _ _ g au
 have hE:=hE.trans au
 have f:=f.trans au
 have s:=s.trans au
 refine gL (fun(ρ:Ae) (wz:World)=>∃q:Nat,ρ 0=(v:Value)∧ρ 2=(PQ n2 0:Value)∧ρ 3=(PQ m 0:Value)∧ρ 4=(y:Value)∧ρ 5=(NI (64*j):Value)∧ρ 21=(PQ bg 0:Value)∧ρ 22=(NI q:Value)∧Ext w wz∧wz.heap[n2]? =some (.cells (Lib.byteCells (List.replicate 32 0)).toArray 38 (0,0))∧Ext w3 wz∧wz.ownsRow a0.heap.size 5 1 y (P:List UInt8).length (Lib.byteCells (P))∧wz.heap[m]? =some (.cells (Sf.map fun x=>U x).toArray 88 (0,0))∧Ext ak wz∧wz.heap[bg]? =some (.cells (Lib.byteCells (Sha.outs Sf q)).toArray 38 (0,0))∧(q≤8)∧True) (fun ρ _=>8-(intOf (ρ 22)).toNat) ⟨0,T0,u,h,p,o,rfl,rfl,hE,c,f,g,hb21l,s,AE c2 (rfl),Nat.zero_le _,trivial⟩ ?_
 clear c2
 clear hE c f g hb21l
 rintro d2 fn ⟨q,T0,u,h,p,o,av,ac,hE,c,f,g,hb21l,s,hb205l,hq,-⟩
 have q22:=ac
 refine gS (Yk.eqI (a:=(q:Nat)) (b:=(8:Nat)) ac rfl (Ah _ _ _ _) ?_)
 refine cD rfl (fun c3=> ?_) fun c3=> ?_
 ·refine gS (Yk.bin (xv:=NI 4) (yv:=NI q) rfl ac rfl (A0 _ _ _ (by omega)) (gS (Yk.atArr0 (i:=q) AV AM h ac (by omega) (gS (Yk.cell1 AL rfl rfl (cellAt hb21l (AD (i:=q) (by rw[hSf];omega))) (gS (Yk.bin rfl rfl rfl (Ei _ _ _ 24 (by decide)) (gS (Yk.narrow AL u5 rfl (gS (Yk.atArr0 (i:=(4)*(q)) QJ M4 av rfl (by omega) (gS (Yk.storeB8 (i:=(4)*(q)) (v:=(((Sf).getD (q) 0)>>>24).toUInt8) rfl rfl hb205l (by rw[Sha.outs_length _ hSf _ (by omega)];omega) Ru fun fo c4 aw fp=> ?_)))))))))))))
  clear hb205l
  have hb205l:=c4;clear c4
  have fq:=bl hb205l
  have hb21l:=kb aw hb21l (by omega)
  refine gS (Yk.bin (xv:=NI 4) (yv:=NI q) rfl ac rfl (A0 _ _ _ (by omega)) (gS (Yk.bin (xv:=NI ((4)*(q))) (yv:=NI 1) rfl rfl rfl (Ac _ _ _ (by omega)) (gS (Yk.atArr0 (i:=q) AV AM h ac (by omega) (gS (Yk.cell1 AL rfl rfl (cellAt hb21l (AD (i:=q) (by rw[hSf];omega))) (gS (Yk.bin rfl rfl rfl (Ei _ _ _ 16 (by decide)) (gS (Yk.narrow AL u5 rfl (gS (Yk.atArr0 (i:=((4)*(q))+(1)) QJ M4 av rfl (by omega) (gS (Yk.storeB8 (i:=((4)*(q))+(1)) (v:=(((Sf).getD (q) 0)>>>16).toUInt8) rfl rfl hb205l (by rw[List.length_set,Sha.outs_length _ hSf _ (by omega)];omega) Ru fun fr c5 ax fs=> ?_)))))))))))))))
  clear hb205l
  have hb205l:=c5;clear c5
  have ft:=bl hb205l
  have hb21l:=kb ax hb21l (by omega)
  refine gS (Yk.bin (xv:=NI 4) (yv:=NI q) rfl ac rfl (A0 _ _ _ (by omega)) (gS (Yk.bin (xv:=NI ((4)*(q))) (yv:=NI 2) rfl rfl rfl (Ac _ _ _ (by omega)) (gS (Yk.atArr0 (i:=q) AV AM h ac (by omega) (gS (Yk.cell1 AL rfl rfl (cellAt hb21l (AD (i:=q) (by rw[hSf];omega))) (gS (Yk.bin rfl rfl rfl (Ei _ _ _ 8 (by decide)) (gS (Yk.narrow AL u5 rfl (gS (Yk.atArr0 (i:=((4)*(q))+(2)) QJ M4 av rfl (by omega) (gS (Yk.storeB8 (i:=((4)*(q))+(2)) (v:=(((Sf).getD (q) 0)>>>8).toUInt8) rfl rfl hb205l (by rw[List.length_set,List.length_set,Sha.outs_length _ hSf _ (by omega)];omega) Ru fun fu c6 ay fv=> ?_)))))))))))))))
  clear hb205l
  have hb205l:=c6;clear c6
  have fw:=bl hb205l
  have hb21l:=kb ay hb21l (by omega)
  refine gS (Yk.bin (xv:=NI 4) (yv:=NI q) rfl ac rfl (A0 _ _ _ (by omega)) (gS (Yk.bin (xv:=NI ((4)*(q))) (yv:=NI 3) rfl rfl rfl (Ac _ _ _ (by omega)) (gS (Yk.atArr0 (i:=q) AV AM h ac (by omega) (gS (Yk.cell1 AL rfl rfl (cellAt hb21l (AD (i:=q) (by rw[hSf];omega))) (gS (Yk.narrow AL u5 rfl (gS (Yk.atArr0 (i:=((4)*(q))+(3)) QJ M4 av rfl (by omega) (gS (Yk.storeB8 (i:=((4)*(q))+(3)) (v:=((Sf).getD (q) 0).toUInt8) rfl rfl hb205l (by rw[List.length_set,List.length_set,List.length_set,Sha.outs_length _ hSf _ (by omega)];omega) Ru fun fx c7 az fy=> ?_)))))))))))))
  clear hb205l
  have hb205l:=c7;clear c7
  have fz:=bl hb205l
  have hE:=Aa hE aw (Nat.le_trans bh (by omega))
  have hE:=Aa hE ax (Nat.le_trans bh (by omega))
  have hE:=Aa hE ay (Nat.le_trans bh (by omega))
  have hE:=Aa hE az (Nat.le_trans bh (by omega))
  have c:=kb aw c (by omega)
  have c:=kb ax c (by omega)
  have c:=kb ay c (by omega)
  have c:=kb az c (by omega)
  have f:=Aa f aw (Nat.le_trans bi (by omega))
  have f:=Aa f ax (Nat.le_trans bi (by omega))
  have f:=Aa f ay (Nat.le_trans bi (by omega))
  have f:=Aa f az (Nat.le_trans bi (by omega))
  have g:=AY g aw bj
  have g:=AY g ax bj
  have g:=AY g ay bj
  have g:=AY g az bj
  have s:=Aa s aw (Nat.le_trans (Nat.le_refl _) (by omega))
  have s:=Aa s ax (Nat.le_trans (Nat.le_refl _) (by omega))
  have s:=Aa s ay (Nat.le_trans (Nat.le_refl _) (by omega))
  have s:=Aa s az (Nat.le_trans (Nat.le_refl _) (by omega))
  have hb21l:=kb az hb21l (by omega)
  refine gS (Yk.bin (xv:=NI q) (yv:=NI 1) ac rfl rfl (Ac _ _ _ (by omega)) (gK (And.intro ⟨q+1,T0,u,h,p,o,av,rfl,hE,c,f,g,hb21l,s,AE hb205l (congrArg Lib.byteCells (Sha.outs_step Sf hSf q c3)),by omega,trivial⟩ ?_)))
  show 8-(intOf (NI ((q)+(1)))).toNat<8-(intOf (d2 22)).toNat
  rw[q22]
  simp only[intOf,Int.toNat_natCast];omega
 refine gS (Yk.loadAll av hb205l QJ rfl (by rw[List.size_toArray,Lib.byteCells_length,Sha.outs_length _ hSf _ (by omega)];exact N2) (gS (Yk.storeAll u (vr (AB (Sha.outs Sf q)) rfl) c (by rw[List.size_toArray,Lib.byteCells_length,Sha.outs_length _ hSf _ (by omega)];rfl) (by rw[List.size_toArray,Lib.byteCells_length,Sha.outs_length _ hSf _ (by omega)];exact N2) (Ai _) fun f0 c8 d3 f1=> ?_)))
 clear f
 clear s
 clear c
 have c:=c8;clear c8
 have f2:=bl c
 have hE:=Aa hE d3 (Nat.le_trans (Nat.le_refl _) (by omega))
 refine IO rfl (ResF.row u c QJ rfl (by rw[List.size_toArray,Lib.byteCells_length,Sha.outs_length _ hSf _ (by omega)];exact N2)) ?_
 refine⟨?_,hE⟩
 have e:Sha.outs Sf q=Sha.sum l:=by rw[show q=8 by omega,Sha.outs_all Sf hSf,hSe,hjK,hP];rfl
 rw[e]
open Go.RowKit
structure Pt where
  v:Value
  bytes:Bs
  base:Int
def AH:Pt:=⟨.slice none 0 0,[],0⟩
def partC(p:Pt):List Value:= [p.v, .int .i64 p.base]
def Q3(w:World)(ps:List Pt):Prop:=∀p∈ps,RB w p.v p.bytes ∧ -9223372036854775808≤p.base∧p.base≤9223372036854775807
theorem OP{p:Pt}(h:p.v.cells = #[p.v]∧p.v.oneCell' =true):∀u∈partC p,u.oneCell' =true:=by
  intro u hu
  simp only[partC,List.mem_cons,List.not_mem_nil,or_false]at hu
  rcases hu with rfl | rfl
  · exact h.2
  · rfl
structure BS where
  b:Bs
  ids:List Bs
  places:List Nat
  depths:List Nat
  total:Nat
def Bb(s:Bs):Bs:=Lib.uvarint s.length++s
def Ec(p:Pt)(s:BS):Nat:=if p.base<0 then 0 else s.depths.getD p.base.toNat 0+1
def bnext(ps:List Pt)(p:Pt)(s:BS):BS:=
  { b:=if p.base<0 then s.b++ [0]++Bb p.bytes else s.b++ [1]++s.ids.getD p.base.toNat []++Bb (BK (ps.getD p.base.toNat AH).bytes p.bytes)
    ids:=s.ids++ [Sha.sum p.bytes],places:=s.places++ [s.b.length],depths:=s.depths++ [Ec p s],total:=s.total+p.bytes.length }
def FS(ps:List Pt)(i:Nat)(s:BS):Except Nat BS:=
  if(ps.getD i AH).base < -1∨(i:Int)≤(ps.getD i AH).base then .error 1
  else if Sha.sum (ps.getD i AH).bytes∈s.ids then .error 11
  else if 50<Ec (ps.getD i AH) s then .error 17
  else .ok (bnext ps (ps.getD i AH) s)
def DD(ps:List Pt):Nat→Except Nat BS
  | 0=> .ok ⟨80 :: Lib.uvarint ps.length,[],[],[],0⟩
  | i+1=>match DD ps i with
    | .error e=> .error e
    | .ok s=>FS ps i s
theorem H3{ps:List Pt}{e:Nat}:∀ {i:Nat} (_:DD ps i = .error e) (k:Nat),DD ps (i+k) = .error e
  | _,h,0=>h
  | i,h,k+1=>by
    show(match DD ps (i+k)with | .error e=>_ | .ok s=>_)=_
    rw[H3 h k]
theorem Fy{ps:List Pt}{i:Nat}{s:BS}(h:DD ps i = .ok s):DD ps (i+1)=FS ps i s:=by
  show(match DD ps i with | .error e=>_ | .ok s=>_)=_
  rw[h]
def Bd(s:BS)(id:Bs):Option Nat:=(s.ids.zip s.places).lookup id
def Ds(ps:List Pt):Prop:=ps.length≤60∧∀p∈ps,p.bytes.length≤200
structure BOk (i : Nat) (s : BS) : Prop where
  ids:s.ids.length=i
  places:s.places.length=i
  depths:s.depths.length=i
  len:∀id∈s.ids,id.length=32
  b:s.b.length≤10+500*i
  pl:∀p∈s.places,p≤10+500*i
  dp:∀d∈s.depths,d≤50
  total:s.total≤200*i
theorem QK{n:Nat}(h:n<16384):(Lib.uvarint n).length≤2:=by
  by_cases h1:n<128
  · rw[Lib.uvarint_small h1];simp
  · rw[Lib.uvarint_big (by omega),Lib.uvarint_small (by omega)];simp
theorem CA{α β:Type}[BEq α][LawfulBEq α]:∀(l:List α) (m:List β) (x:α),x∉l→(l.zip m).lookup x=none
  | [],_,_,_=>by simp
  | _ :: _,[],_,_=>by simp
  | a :: l,b :: m,x,h=>by
    simp only[List.mem_cons,not_or]at h
    rw[List.zip_cons_cons,List.lookup_cons,CA l m x h.2]
    have:(x==a)=false:=by simpa using h.1
    rw[this]
theorem DE{α β:Type}[BEq α][LawfulBEq α]:∀(l:List α) (m:List β) (x:α),l.length=m.length→x∈l→∃y,(l.zip m).lookup x=some y∧y∈m
  | [],_,_,_,h=>by simp at h
  | _ :: _,[],_,h,_=>by simp at h
  | a :: l,b :: m,x,hl,h=>by
    rw[List.zip_cons_cons,List.lookup_cons]
    by_cases e:x=a
    · subst e
      exact⟨b,by simp,by simp⟩
    · have:(x==a)=false:=by simpa using e
      rw[this]
      obtain⟨y,h1,h2⟩:=DE l m x (by simpa using hl) ((List.mem_cons.1 h).resolve_left e)
      exact⟨y,h1,by simp[h2]⟩
theorem FT{α β:Type}[BEq α][LawfulBEq α][DecidableEq α]:∀(l:List α) (m:List β) (a:α) (b:β),l.length=m.length→a∉l→(fun x=>((l++ [a]).zip (m++ [b])).lookup x)=updM (fun x=>(l.zip m).lookup x) a (some b)
  | [],[],a,b,_,_=>by
    funext x
    unfold updM
    simp only[List.nil_append,List.zip_cons_cons,List.zip_nil_left,List.lookup_cons,List.lookup_nil]
    by_cases e:x=a
    · simp[e]
    · have:(x==a)=false:=by simpa using e
      simp[e,this]
  | [],_ :: _,_,_,h,_=>by simp at h
  | _ :: _,[],_,_,h,_=>by simp at h
  | c :: l,d :: m,a,b,hl,h=>by
    simp only[List.mem_cons,not_or]at h
    have ih:=FT l m a b (by simpa using hl) h.2
    funext x
    have ihx:=congrFun ih x
    unfold updM at ihx ⊢
    simp only[List.cons_append,List.zip_cons_cons,List.lookup_cons,ihx]
    by_cases e:x=a
    · subst e
      have:(x==c)=false:=by simpa using h.1
      simp[this]
    · simp[e]
theorem Hu{ps:List Pt}{p:Pt}{i:Nat}{s:BS}(h:BOk i s)(hn:Sha.sum p.bytes∉s.ids):Bd (bnext ps p s)=updM (Bd s) (Sha.sum p.bytes) (some s.b.length):=by
  have:=FT s.ids s.places (Sha.sum p.bytes) s.b.length (by rw[h.ids,h.places]) hn
  exact this
theorem BOk.next{ps:List Pt}{i:Nat}{s:BS}(hL:Ds ps)(h:BOk i s)(hi:i<ps.length){s' :BS}(hs:FS ps i s=Except.ok s'):BOk (i+1) s' :=by
  unfold FS at hs
  split at hs
  · cases hs
  · split at hs
    · cases hs
    · split at hs
      · cases hs
      · rename_i h1 h2 h3
        cases hs
        have hp:=hL.2 _ (getD_mem AH hi)
        refine⟨by simp[bnext,h.ids],by simp[bnext,h.places],by simp[bnext,h.depths],?_,?_,?_,?_,?_⟩
        · intro id hid
          simp only[bnext,List.mem_append,List.mem_singleton]at hid
          rcases hid with hid | rfl
          · exact h.len id hid
          · exact Sha.sum_length _
        · have hb:=h.b
          have hu:=QK (n:=(ps.getD i AH).bytes.length) (by omega)
          simp only[bnext]
          split
          · simp only[List.length_append,List.length_cons,List.length_nil,Bb]
            omega
          · rename_i hbase
            have a:(ps.getD i AH).base.toNat<s.ids.length:=by rw[h.ids];omega
            have h32:=h.len _ (getD_mem [] a)
            have hq:=hL.2 _ (getD_mem AH (l:=ps) (i:=(ps.getD i AH).base.toNat) (by rw[h.ids]at a;omega))
            have hm:=Hp (ps.getD (ps.getD i AH).base.toNat AH).bytes (ps.getD i AH).bytes (by omega) (by omega)
            have c:=QK (n:=(BK (ps.getD (ps.getD i AH).base.toNat AH).bytes (ps.getD i AH).bytes).length) (by omega)
            simp only[List.length_append,List.length_cons,List.length_nil,Bb,h32]
            omega
        · intro q hq
          have hb:=h.b
          simp only[bnext,List.mem_append,List.mem_singleton]at hq
          rcases hq with hq | rfl
          · have:=h.pl q hq;omega
          · omega
        · intro q hq
          simp only[bnext,List.mem_append,List.mem_singleton]at hq
          rcases hq with hq | rfl
          · exact h.dp q hq
          · omega
        · have ht:=h.total
          simp only[bnext]
          omega
theorem Hv{ps:List Pt}(hL:Ds ps):∀(i:Nat) (s:BS),i≤ps.length→DD ps i = .ok s→BOk i s
  | 0,s,_,h=>by
    cases h
    have:=QK (n:=ps.length) (by have:=hL.1;omega)
    exact⟨rfl,rfl,rfl,by simp,by simp only[List.length_cons];omega,by simp,by simp,by simp⟩
  | i+1,s,hi,h=>by
    have h' :(match DD ps i with | .error e=> .error e | .ok s=>FS ps i s)=Except.ok s:=h
    cases hb:DD ps i with
    | error e=>rw[hb]at h';cases h'
    | ok s0=>
      rw[hb]at h'
      exact(Hv hL i s0 (by omega) hb).next hL (by omega) h'
def Cb(s:BS)(at_:Nat):Bs:=(AK s.ids).flatMap Az++(Ar s.ids).flatMap (fun id=>id++Az ((Bd s id).getD 0))++Az at_
def BB(ps:List Pt):Bs × Nat:=
  match DD ps ps.length with
  | .error e=>([],e)
  | .ok s=>(s.b++Cb s s.b.length++Sha.sum (s.b++Cb s s.b.length),0)
theorem FU(l:List Nat):(l.flatMap Az).length=4*l.length:=by
  induction l with
  | nil=>rfl
  | cons a r ih=>rw[List.flatMap_cons,List.length_append,ih,CM,List.length_cons];omega
theorem Lj(f:Bs→Nat)(l:List Bs)(h:∀x∈l,x.length=32):(l.flatMap fun id=>id++Az (f id)).length=36*l.length:=by
  induction l with
  | nil=>rfl
  | cons a r ih=>
    rw[List.flatMap_cons,List.length_append,List.length_append,CM,h a (by simp),ih (fun x hx=>h x (by simp[hx])),List.length_cons]
    omega
theorem F7{i:Nat}{s:BS}(h:BOk i s)(a:Nat):(Cb s a).length=1028+36*i:=by
  unfold Cb
  rw[List.length_append,List.length_append,FU,Bi,Lj (fun id=>(Bd s id).getD 0) _ (fun x hx=>h.len x ((sortB_perm _).subset hx)),BL,h.ids,CM]
  omega
end Go.Proofs.YtcegdjpdnlaleaaDoor
