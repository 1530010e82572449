/- Part 3 of what stands behind these statements: laws and walks of the functions that are reached. Conditions: those that each theorem names. -/
import Derived.Test.YtcegdjpdnlaleaaDoorQ2
set_option linter.unusedVariables false
namespace Go.Proofs.YtcegdjpdnlaleaaDoor
open Go.RowKit
open Go.WideMaps (KeyLaw)
structure IX (w0 w : World) (b base : Nat) (I : TypeId) (G : List UInt8 → List Nat) : Prop where
  ext:Ext w0 w
  lo:w0.heap.size≤b
  hb:base≤w.heap.size
  idx:IdxAt w b base I G
structure IXO (w0 w : World) (b base : Nat) (I : TypeId) (G : List UInt8 → List Nat) (r : List UInt8) (v : Value) (zs : List Nat) (st : Nat) : Prop where
  ext:Ext w0 w
  lo:w0.heap.size≤b
  hb:base≤w.heap.size
  opn:IdxOpen w b base I G r v zs st
section
variable {P : Program} {K : Value → World → Prop} {ρ : Aq} {w w' : World} {d : Option Tmp} {ty : TypeId} {pos : String} {af : Array Edge} {gd : Option (Nat × Bool)}
variable {w0 : World} {b base : Nat} {I : TypeId} {G : List UInt8 → List Nat} {r : List UInt8} {v : Value} {zs : List Nat} {st : Nat}
theorem IX.keep(h:IX w0 w b base I G)(k:Ext w w'):IX w0 w' b base I G:=⟨h.ext.trans k,h.lo,Nat.le_trans h.hb k.size,h.idx.keep k⟩
theorem Yk.makeMap{t:TypeId}(hk:∀b w',w.heap.size=b→IX w w' b (b+1) I (fun _=> [])→K (.map (some b)) w'):Yk P K ((execOp (Ad ρ) ⟨d, .makeMap t none,ty,pos,af,gd⟩).run P w):=by
  refine Yk.value (v:= .map (some w.heap.size)) (w' :=w.alloc (.map #[] 0)) ?_ (hk _ _ rfl ⟨(Below.refl _ _).alloc (Nat.le_refl _) _,Nat.le_refl _,by simp,IdxAt.made w⟩)
  unfold execOp
  simp only[Option.map_none,Sem.run_bind,run_makeMap,Result.andThen_ok,Sem.run_pure]
theorem Yk.entry{t Kt E:TypeId}(L:KeyLaw P Kt)(hkr:∀r:List UInt8,r.length=8→∃l,keyOf P Kt (rk r)=some l)(ht:P.underlying t=some (.map Kt E))(hz:∀u:World,(zeroValue E).run P u = .ok (.slice none 0 0) u){x y:Operand} 
    (hm:Ad ρ x = .map (some b)) (hy:Ad ρ y=rk r) (h:IX w0 w b base I G) (hr:r.length=8) (hk:∀v st w1,IXO w0 w1 b base I G r v (G r) st→w.grownBy w1 (some b)→K (.tuple #[v,NI st]) w1):
    Yk P K ((execOp (Ad ρ) ⟨d, .mapEntry t x y,ty,pos,af,gd⟩).run P w):=by
  obtain⟨v,st,w1,hrun,hg,hs,ho⟩:=h.idx.entry L hkr ht hz hr
  refine Yk.value (v:= .tuple #[v,NI st]) (w' :=w1) ?_ (hk v st w1 ⟨Below.grown h.ext hg h.ext.size (fun k hk=>by cases hk;exact h.lo),h.lo,by rw[hs];exact h.hb,ho⟩ hg)
  unfold execOp
  simp only[hm,hy,Sem.run_bind,hrun,Result.andThen_ok,Sem.run_pure]
  rfl
theorem Yk.entryStore{t:TypeId}{x s y:Operand}(hm:Ad ρ x = .map (some b))(hs:Ad ρ s=NI st)(hy:Ad ρ y=v)(h:IXO w0 w b base I G r v zs st)(hne:zs≠ [])(hk:∀w1,IX w0 w1 b base I (updG G r zs)→K undef w1):
    Yk P K ((execOp (Ad ρ) ⟨d, .entryStore t x s y,ty,pos,af,gd⟩).run P w):=by
  obtain⟨w1,hrun,hg,hsz,ho⟩:=h.opn.store (P:=P) (t:=t) hne
  have hrun' :(Instr.entryStore t (.map (some b)) (NI st) v).run P w = .ok () w1:=hrun
  have hK:=hk w1 ⟨Below.grown h.ext hg h.ext.size (fun k hk=>by cases hk;exact h.lo),h.lo,by rw[hsz];exact h.hb,ho⟩
  unfold execOp
  simp only[hm,hs,hy,Sem.run_bind,hrun',Result.andThen_ok,Sem.run_pure]
  exact hK
theorem IXO.own(h:IXO w0 w b base I G r v zs st):w.ownsRow base I 1 v zs.length (zs.map NI):=h.opn.2.2.1
theorem IXO.grew{v' :Value}{zs' :List Nat}(h:IXO w0 w b base I G r v zs st)(gr:Grew w w' v v')(ho:w'.ownsRow base I 1 v' zs'.length (zs'.map NI)):IXO w0 w' b base I G r v' zs' st:=
  ⟨Below.grown h.ext gr.by_ h.ext.size (fun k hk=>Nat.le_trans h.lo (Nat.le_trans (Nat.le_of_lt h.opn.1) (h.own.lt k hk).1)),h.lo,Nat.le_trans h.hb gr.by_.size,h.opn.grew gr ho⟩
theorem Yk.toArr{t e:TypeId}{n:Nat}(ht:P.underlying t=some (.array n e)){x:Operand}{l:List UInt8}(h:RB w (Ad ρ x) l)(hl:l.length=n)(hn:0<n)(hk:∀g o,w.rangeAt g o (Lib.byteCells l)→K (.pointer (some ⟨g,o,none⟩)) w):
    Yk P K ((execOp (Ad ρ) ⟨d, .sliceToArrayPointer t x,ty,pos,af,gd⟩).run P w):=by
  obtain⟨g,o,cap,hv,h1,h2,h3,h4⟩:=h.open_ (by omega)
  refine Yk.value (v:= .pointer (some ⟨g,o,none⟩)) (w' :=w) ?_ (hk g o fun j v hj=> ?_)
  · unfold execOp
    simp only[hv,Instr.arrayAt,Sem.run_bind,run_underlying ht,Result.andThen_ok]
    rw[if_neg (by omega)]
    rfl
  · have hj' :j<l.length:=by simpa [Lib.byteCells] using (List.getElem?_eq_some_iff.1 hj).1
    rw[h4 j hj',←hj]
    simp[Lib.byteCells,hj',List.getD]
theorem Yk.look{t Kt E:TypeId}(L:KeyLaw P Kt)(hkr:∀r:List UInt8,r.length=8→∃l,keyOf P Kt (rk r)=some l)(ht:P.underlying t=some (.map Kt E))(hz:∀u:World,(zeroValue E).run P u = .ok (.slice none 0 0) u){x y:Operand} 
    (hm:Ad ρ x = .map (some b)) (hy:Ad ρ y=rk r) (h:IdxAt w b base I G) (hr:r.length=8) (hk:∀v,w.ownsRow base I 1 v (G r).length ((G r).map NI)→K v w):
    Yk P K ((execOp (Ad ρ) ⟨d, .lookup t x y false,ty,pos,af,gd⟩).run P w):=by
  obtain⟨v,hrun,ho⟩:=h.look L hkr ht hz hr
  refine Yk.value (v:=v) (w' :=w) ?_ (hk v ho)
  unfold execOp
  simp only[hm,hy,Sem.run_bind,hrun,Result.andThen_ok,Sem.run_pure]
end
def posOf(l:List UInt8)(k:Nat)(r:List UInt8):List Nat:=(List.range k).filter fun j=>(l.drop j).take 8==r
theorem Mr(l:List UInt8)(k:Nat):updG (posOf l k) ((l.drop k).take 8) (posOf l k ((l.drop k).take 8)++ [k])=posOf l (k+1):=by
  funext s
  unfold updG posOf
  rw[List.range_succ,List.filter_append]
  by_cases h:s=(l.drop k).take 8
  · subst h
    rw[if_pos rfl]
    simp
  · rw[if_neg h]
    have:((l.drop k).take 8==s)=false:=by simpa using fun e=>h e.symm
    simp[this]
theorem LB(l:List UInt8):posOf l 0=fun _=> []:=by
  funext s
  rfl
theorem posOf_length(l:List UInt8)(k:Nat)(r:List UInt8):(posOf l k r).length≤k:=by
  have:=List.length_filter_le (fun j=>(l.drop j).take 8==r) (List.range k)
  rw[List.length_range]at this
  exact this
theorem Ms:KeyLaw Tryd.prog 100:=deep_law_laid (by kernel_rfl) (m:=3) (by decide) (of_decide_eq_true (by kernel_rfl)) (by kernel_rfl) (by kernel_rfl)
theorem Mt:∀r:List UInt8,r.length=8→∃l,keyOf Tryd.prog 100 (rk r)=some l:=fun _ h=>
  IC (n:=8) (e:=5) Tryd.underlying100 Tryd.underlying5 (by kernel_rfl) (by kernel_rfl) (by kernel_rfl) (of_decide_eq_true (by kernel_rfl)) h
theorem JJ:∀u:World,(zeroValue 54).run Tryd.prog u = .ok (.slice none 0 0) u:=fun _=>by kernel_rfl
theorem Pd:(Tryd.prog.info? 3).map (fun i=>(i.zero,i.size,i.bytes))=some (some (.int .i64 0),1,8):=by kernel_rfl
open Go.RowKit
set_option maxRecDepth 100000
theorem Fy:(Tryd.prog.info? 100).map (·.size)=some 8:=by kernel_rfl
theorem F3:Tryd.prog.underlying 100=some (.array 8 5):=by kernel_rfl
theorem LC{d:Option Tmp}{ty:TypeId}{pos:String}{af:Array Edge}{gd:Option (Nat × Bool)}(σ:Operand→Value)(w:World):(execOp σ ⟨d, .alloc 100,ty,pos,af,gd⟩).run Tryd.prog w = .ok (.value (PQ w.heap.size 0)) (w.alloc (.cells (Lib.byteCells (List.replicate 8 0)).toArray 100)):=by kernel_rfl
theorem LD(z:Int)(w:World):(Instr.buildSlice 54 1 #[(0, .int .i64 z)]).run Tryd.prog w = .ok (.slice (some ⟨w.heap.size,0,none⟩) 1 1) (w.alloc (.cells #[.int .i64 z] 3)):=by kernel_rfl
theorem Mu:Tryd.prog.underlying 96=some (.map 100 54):=by kernel_rfl
theorem ID:Tryd.prog.underlying 54=some (.slice 3):=by kernel_rfl
theorem Mv(w:World)(v:Value)(l:List UInt8)(hr:RB w v l)(hl:l.length≤1048576):
  Calls Tryd.prog 53 #[v] w fun e w' =>∃b base,e = .returned (.map (some b))∧IX w w' b base 3 (posOf l (l.length-7)):=by
 refine AA (args:= [v]) Tryd.func53 rfl 30 rfl (Nat.le_of_ble_eq_true rfl) ?_
 intro ac hb
 have c:ac 0=(v:Value):=hb.get 0
 clear hb
 have hE:=Ext.refl w
 refine sk fun K1 ad=>(wt (oS rfl (Yk.assign (vr (Value.map none) rfl) (AH [(0,v),(2,(Value.map none))] ⟨c,rfl,trivial⟩ fun a6 ⟨c,h,_⟩=>(tN (ad _ _ (sk fun K3 ae=>(wt (oS rfl (Yk.makeMap (I:=3) fun g w5 a9 hX7=> ?_))))))))))
 have hX7:=(LB l)▸hX7
 have hE:=hX7.ext
 refine oS rfl (Yk.assign (vr (.map (some g)) rfl) (AH [(0,v),(2,(Value.map none)),(3, .map (some g))] ⟨c,h,rfl,trivial⟩ fun ba ⟨c,h,k,_⟩=>(tN (ae _ _ (sk fun K9 af=>(sk fun bc ag=>(wt (oS rfl (Yk.assign (vr (NI 0) rfl) (AH [(0,v),(2,(Value.map none)),(3, .map (some g)),(4,NI 0)] ⟨c,h,k,rfl,trivial⟩ fun bd ⟨c,h,k,f,_⟩=>(tN (ag _ _ (Aj (AX (fun(ρ:Aq) (wz:World)=>∃i:Nat,ρ 0=(v:Value)∧ρ 2=((Value.map none):Value)∧ρ 3=(.map (some g):Value)∧ρ 4=(NI i:Value)∧Ext w wz∧IX w wz g (g+1) 3 (posOf l i)∧(i≤l.length-7)∧True) (fun ρ _=>l.length-(intOf (ρ 4)).toNat) ⟨0,c,h,k,f,hE,hX7,Nat.zero_le _,trivial⟩ ?_))))))))))))))
 clear hX7
 clear hE
 rintro ah ai ⟨i,c,h,k,f,hE,hXi,hil,-⟩
 have q4:=f
 refine sk fun be aj=>(sk fun bf ak=>(wt (oS rfl (Yk.move f (oS rfl (Yk.bin (xv:=NI i) (yv:=NI 8) rfl rfl rfl (Ak _ _ _ (by omega)) (oS rfl (Yk.move c (oS rfl (Yk.lenRB DT (RB.of (hr.keep hE) (vr v rfl)) (oS rfl (Yk.eqI (a:=((i)+(8):Nat)) (b:=(l.length:Nat)) rfl rfl (C5 _ _ _ _) (AH [(0,v),(2,(Value.map none)),(3, .map (some g)),(4,NI i),(11, .bool (decide (((i)+(8))≤(l.length))))] ⟨c,h,k,f,rfl,trivial⟩ fun bg ⟨c,h,k,f,al,_⟩=>(tN (ak _ _ ?_)))))))))))))))
 refine AO (((i)+(8))≤(l.length)) al (fun h8=> ?_) (fun h8=> ?_)
 ·have hrl:((l.drop i).take (i+8-i)).length=8:=by rw[List.length_take,List.length_drop];omega
  have hrl8:((l.drop i).take 8).length=8:=by rw[List.length_take,List.length_drop];omega
  refine Ah (tN (aj _ _ (sk fun bh am=>(Aj (sk fun bi an=>(wt (oS rfl (Yk.move c (oS rfl (Yk.move f (oS rfl (Yk.move f (oS rfl (Yk.bin (xv:=NI i) (yv:=NI 8) rfl rfl rfl (Ak _ _ _ (by omega)) (oS rfl (Yk.sliceLH (xs:=l) (l:=i) (n:=(i)+(8)) DT Ls (vr v rfl) (hr.keep hE) (vr (NI i) rfl) (vr (NI ((i)+(8))) rfl) (by omega) (by omega) fun ao ap ha21=>(oS rfl (Yk.toArr F3 (RB.of ap (vr ao rfl)) (l:=(l.drop (i)).take (((i)+(8))-(i))) (n:=8) (by rw[List.length_take,List.length_drop];omega) (by decide) fun aq ar au=>(oS rfl (Yk.loadPart (vr (PQ aq ar) rfl) au F3 rfl (by rw[Lib.byteCells_length,hrl];exact Fy) (oS rfl (Yk.alloc (cs:=(Lib.byteCells (List.replicate 8 0)).toArray) LC fun p av bj y z bk=> ?_))))))))))))))))))))))
  have o:=Ext.refl ai
  have bm:=hE
  have aw:=hE.size
  have hE:=hE.trans z
  have o:=o.trans z
  have m:=y;clear y
  have bn:p<av.heap.size:=by omega
  refine oS rfl (Yk.storeAll (vr (PQ p 0) rfl) (vr (AB ((l.drop (i)).take (((i)+(8))-(i)))) rfl) m (by simp only[List.size_toArray,Lib.byteCells_length,hrl];rfl) (by simp only[List.size_toArray,Lib.byteCells_length,hrl];exact Fy) (AF _) fun ax aa ab bo=> ?_)
  have hE:=Ac hE ab (Nat.le_trans aw (by omega))
  have o:=Ac o ab (Nat.le_trans (Nat.le_refl _) (by omega))
  clear m
  have m:=aa;clear aa
  have bp:=bl m
  refine AH [(0,v),(2,(Value.map none)),(3, .map (some g)),(4,NI i),(5,PQ p 0)] ⟨c,h,k,f,rfl,trivial⟩ fun bq ⟨c,h,k,f,s,_⟩=> ?_
  have m:ax.heap[p]? =some (.cells (Lib.byteCells ((l.drop i).take 8)).toArray 100 (0,0)):=AZ m (by rw[show i+8-i=8 by omega])
  refine tN (an _ _ (wt (oS rfl (Yk.move k (oS rfl (Yk.loadAll s m F3 rfl (by simp only[List.size_toArray,Lib.byteCells_length,hrl8];exact Fy) (oS rfl (Yk.move f (oS rfl (Yk.lits (cs:= #[NI i]) (fun w=>by simp only[List.map_toArray,List.map_cons,List.map_nil];rw[(vr (NI i) rfl)];exact LD _ w) fun t br bs ay x bt=> ?_))))))))))
  have hE:=hE.trans x
  have o:=o.trans x
  have m:=eb x m
  have hb1i:=ay
  refine oS rfl (Yk.entry Ms Mt Mu JJ (vr (.map (some g)) rfl) (vr (AB ((l.drop i).take 8)) rfl) (hXi.keep o) hrl8 fun q r bu hX51 az=> ?_)
  have hE:=hX51.ext
  clear o
  clear m
  have hb1i:=(Eq.trans (az.block t (bl hb1i) (by have h1:=hXi.idx.lt;simp;omega)) hb1i)
  refine oS rfl (Yk.extract (vs:= [q,NI r]) (vr (.tuple #[q,NI r]) rfl) (show _=some (q:Value)from rfl) (oS rfl (Yk.append _ _ (g+1) 3 (.int .i64 0) 1 8 ID Pd rfl (posOf l i ((l.drop i).take 8)).length ((posOf l i ((l.drop i).take 8)).map NI) (BB hX51.own (vr q rfl)) 1 [NI i] (show Src _ _ _ _ _ _ _ from by rw[(vr (.slice (some ⟨t,0,none⟩) 1 1) rfl)];exact(Src.ofSlice _ ID ⟨t,0,none⟩ 1 1 [NI i] rfl (fun j u hu=>by rw[Addr.add_lit,Nat.zero_add];exact Ai (l:= [NI i]) hb1i hu) (fun u hu=>by rw[List.mem_singleton.1 hu];rfl))) (by have:=posOf_length l i ((l.drop i).take 8);unfold maxLen;omega) (by have:=posOf_length l i ((l.drop i).take 8);omega) hX51.hb fun a0 bv a1 a2=> ?_)))
  have hX57:=IXO.grew (zs' :=posOf l i ((l.drop i).take 8)++ [i]) hX51 a2 (by rw[List.length_append,List.map_append];exact a1)
  have hE:=hX57.ext
  clear hX51
  refine oS rfl (Yk.extract (vs:= [q,NI r]) (vr (.tuple #[q,NI r]) rfl) (show _=some (NI r:Value)from rfl) (oS rfl (Yk.entryStore (vr (.map (some g)) rfl) (vr (NI r) rfl) (vr a0 rfl) hX57 (by simp) fun bw hX59=> ?_)))
  have hX59:=(Mr l i)▸hX59
  have hE:=hX59.ext
  clear hX57
  refine AH [(0,v),(2,(Value.map none)),(3, .map (some g)),(4,NI i),(5,PQ p 0)] ⟨c,h,k,f,s,trivial⟩ fun bx ⟨c,h,k,f,s,_⟩=>(bN (tN (am _ _ (wt (oS rfl (Yk.move f (oS rfl (Yk.bin (xv:=NI i) (yv:=NI 1) rfl rfl rfl (Ak _ _ _ (by omega)) (oS rfl (Yk.assign (vr (NI ((i)+(1))) rfl) (AH [(0,v),(2,(Value.map none)),(3, .map (some g)),(4,NI ((i)+(1))),(5,PQ p 0)] ⟨c,h,k,rfl,s,trivial⟩ fun a3 ⟨c,h,k,f,s,_⟩=>(tN (And.intro ⟨i+1,c,h,k,f,hE,hX59,by omega,trivial⟩ ?_)))))))))))))
  show l.length-(intOf (a3 4)).toNat<l.length-(intOf (ah 4)).toNat
  rw[f,q4]
  simp only[intOf,Int.toNat_natCast];omega
 have hik:i=l.length-7:=by omega
 refine AJ (Ag (Ag (Ap (tN (af _ _ (sk fun bz a4=>(wt (oS rfl (Yk.move k (oS rfl (Yk.assign (vr (.map (some g)) rfl) (AH [(0,v),(2, .map (some g)),(3, .map (some g)),(4,NI i)] ⟨c,rfl,k,f,trivial⟩ fun b0 ⟨c,h,k,f,_⟩=>(tN (a4 _ _ (As (Ao (fn:=Tryd.f53) _ rfl [.map (some g)] (.map (some g)) rfl ⟨h,trivial⟩ ?_))))))))))))))))
 rw[hik]at hXi
 exact⟨_,_,rfl,hXi⟩
open Go.RowKit
structure MK (w0 wI w : World) (lo g3 g5 g7 : Nat) (vt vc v : Value) (o : List UInt8) (fr : Nat) : Prop where
  ext:Ext w0 w
  b3:w.heap[g3]? =some (.cells #[vt] 24 (0,0))
  b5:w.heap[g5]? =some (.cells #[vc] 24 (0,0))
  b7:w.heap[g7]? =some (.cells #[NI fr] 3 (0,0))
  own:w.ownsRow w0.heap.size 5 1 v o.length (Lib.byteCells o)
  fz:∀k,lo≤k→k<wI.heap.size→w.heap[k]? =wI.heap[k]?
  apz:∀k,v.ownBlock=some k→k<lo∨wI.heap.size≤k
  l3:w0.heap.size≤g3
  l5:w0.heap.size≤g5
  l7:w0.heap.size≤g7
  o3:g3<lo
  o5:g5<lo
  o35:g3≠g5
  o7:wI.heap.size≤g7
  oi:lo≤wI.heap.size
  os:wI.heap.size≤w.heap.size
theorem Ep{w:World}{b:Nat}{e t:TypeId}{z n g:Nat}{v:Value}{xs:List Value}{cs:Array Value}{fr:Nat × Nat}(ho:w.ownsRow b e z v n xs)(hb:w.heap[g]? =some (.cells cs t fr))(hne:e≠t):v.ownBlock≠some g:=fun h=>by
  rcases ho.2 with ⟨rfl,_⟩ | ⟨g',cap,cur,rfl,_,hg,_⟩
  · cases h
  · have:g' =g:=by simpa [Value.ownBlock] using h
    subst this
    rw[hg]at hb
    simp only[Option.some.injEq,Obj.cells.injEq]at hb
    exact hne hb.2.1
section
variable {w0 wI w w' : World} {lo g3 g5 g7 : Nat} {vt vc v : Value} {o : List UInt8} {fr : Nat}
theorem MK.keep(h:MK w0 wI w lo g3 g5 g7 vt vc v o fr)(k:Ext w w'):MK w0 wI w' lo g3 g5 g7 vt vc v o fr:=
  ⟨h.ext.trans k,Ext.blk' k h.b3,Ext.blk' k h.b5,Ext.blk' k h.b7,Stab.own _ _ _ _ _ _ _ _ h.own k,fun i h1 h2=>(k.block i (Nat.lt_of_lt_of_le h2 h.os)).trans (h.fz i h1 h2),h.apz,h.l3,h.l5,h.l7,h.o3,h.o5,h.o35,h.o7,h.oi,Nat.le_trans h.os k.size⟩
theorem MK.grew{v' :Value}{o' :List UInt8}(h:MK w0 wI w lo g3 g5 g7 vt vc v o fr)(gr:Grew w w' v v')(ho:w'.ownsRow w0.heap.size 5 1 v' o'.length (Lib.byteCells o')):MK w0 wI w' lo g3 g5 g7 vt vc v' o' fr:=
  ⟨AC h.ext gr h.own (Nat.le_refl _),AP h.b3 gr (Ep h.own h.b3 (by decide)),AP h.b5 gr (Ep h.own h.b5 (by decide)),AP h.b7 gr (Ep h.own h.b7 (by decide)),ho,
    fun i h1 h2=>(gr.by_.block i (Nat.lt_of_lt_of_le h2 h.os) (fun e=>by rcases h.apz i e.symm with h3 | h3 <;> omega)).trans (h.fz i h1 h2),
    fun k hk=>(gr.fresh k hk).elim (h.apz k) (fun h3=> .inr (Nat.le_trans h.os h3)),h.l3,h.l5,h.l7,h.o3,h.o5,h.o35,h.o7,h.oi,Nat.le_trans h.os gr.by_.size⟩
theorem MK.set5(h:MK w0 wI w lo g3 g5 g7 vt vc v o fr)(hb:w'.heap[g5]? =some (.cells #[v] 24 (0,0)))(hg:w.grownBy w' (some g5)):MK w0 wI w' lo g3 g5 g7 vt v v o fr:=
  have lt:=fun {k:Nat} {x:Obj} (hx:w.heap[k]? =some x)=>(Array.getElem?_eq_some_iff.1 hx).1
  have h57:g7≠g5:=by have:=h.o5;have:=h.o7;have:=h.oi;omega
  ⟨Below.grown h.ext hg h.ext.size (fun k hk=>by cases hk;exact h.l5),(hg.block g3 (lt h.b3) (by simp[h.o35])).trans h.b3,hb,(hg.block g7 (lt h.b7) (by simp[h57])).trans h.b7,
    A7 h.own hg (Ep h.own h.b5 (by decide)),fun i h1 h2=>(hg.block i (Nat.lt_of_lt_of_le h2 h.os) (fun e=>by cases e;have:=h.o5;omega)).trans (h.fz i h1 h2),h.apz,h.l3,h.l5,h.l7,h.o3,h.o5,h.o35,h.o7,h.oi,Nat.le_trans h.os hg.size⟩
theorem MK.set7{n:Nat}(h:MK w0 wI w lo g3 g5 g7 vt vc v o fr)(hb:w'.heap[g7]? =some (.cells #[NI n] 3 (0,0)))(hg:w.grownBy w' (some g7)):MK w0 wI w' lo g3 g5 g7 vt vc v o n:=
  have lt:=fun {k:Nat} {x:Obj} (hx:w.heap[k]? =some x)=>(Array.getElem?_eq_some_iff.1 hx).1
  have h57:g5≠g7:=by have:=h.o5;have:=h.o7;have:=h.oi;omega
  have h37:g3≠g7:=by have:=h.o3;have:=h.o7;have:=h.oi;omega
  ⟨Below.grown h.ext hg h.ext.size (fun k hk=>by cases hk;exact h.l7),(hg.block g3 (lt h.b3) (by simp[h37])).trans h.b3,(hg.block g5 (lt h.b5) (by simp[h57])).trans h.b5,hb,
    A7 h.own hg (Ep h.own h.b7 (by decide)),fun i h1 h2=>(hg.block i (Nat.lt_of_lt_of_le h2 h.os) (fun e=>by cases e;have:=h.o7;omega)).trans (h.fz i h1 h2),h.apz,h.l3,h.l5,h.l7,h.o3,h.o5,h.o35,h.o7,h.oi,Nat.le_trans h.os hg.size⟩
theorem MK.idx{b base:Nat}{I:TypeId}{G:List UInt8→List Nat}(h:MK w0 wI w lo g3 g5 g7 vt vc v o fr)(hI:IdxAt wI b base I G)(hb:lo≤b):IdxAt w b base I G:=by
  obtain⟨h1,es,c,h2,h3⟩:=hI
  refine⟨h1,es,c,(h.fz b hb (Array.getElem?_eq_some_iff.1 h2).1).trans h2,h3.born,h3.nodup,h3.keys,fun e he=> ?_,h3.all,h3.apart⟩
  obtain⟨q,k1,k2,k3,k4⟩:=h3.ent e he
  refine⟨q,k1,k2,k3,k4.1,?_⟩
  rcases k4.2 with h5 | ⟨g,cap,cur,a,hbg,hg,r⟩
  · exact .inl h5
  · exact .inr ⟨g,cap,cur,a,hbg,(h.fz g (by omega) (Array.getElem?_eq_some_iff.1 hg).1).trans hg,r⟩
end
def Ci(T:List UInt8)(fr to:Nat)(o:List UInt8):List UInt8:=if fr<to then o++Lib.uvarint (2*(to-fr))++(T.drop fr).take (to-fr)else o
open Go.RowKit
set_option maxRecDepth 100000
theorem HK:(Tryd.prog.info? 24).map (·.size)=some 1:=by kernel_rfl
theorem Mw:A2 Tryd.prog 52:=fun _ _=>by kernel_rfl
theorem Gy(w0 wI w:World)(lo g3 g5 g7:Nat)(vt v:Value)(o T:List UInt8)(fr to:Nat)(hM:MK w0 wI w lo g3 g5 g7 vt v v o fr)(hT:RB w0 vt T)(hto:to≤T.length)(hfr:fr≤T.length)(hTl:T.length≤1048576)(hol:o.length≤1073741824):
  Calls Tryd.prog 54 #[NI to,PQ g7 0,PQ g5 0,PQ g3 0] w fun e w' =>e = .returned (.tuple #[])∧∃v',MK w0 wI w' lo g3 g5 g7 vt v' v' (Ci T fr to o) fr:=by
 have a1:w.heap[g3]? =some (.cells ([vt]:List Value).toArray 24 (0,0)):=hM.b3
 have ac:w.heap[g5]? =some (.cells ([v]:List Value).toArray 24 (0,0)):=hM.b5
 have y:w.heap[g7]? =some (.cells ([NI (fr)]:List Value).toArray 3 (0,0)):=hM.b7
 have a2:=hT.keep hM.ext
 refine AA (args:= [NI to,PQ g7 0,PQ g5 0,PQ g3 0]) Tryd.func54 rfl 20 rfl (Nat.le_of_ble_eq_true rfl) ?_
 intro p hb
 have g:p 0=(NI to:Value):=hb.get 0
 have j:p 1=(PQ g7 0:Value):=hb.get 1
 have f:p 2=(PQ g5 0:Value):=hb.get 2
 have q:p 3=(PQ g3 0:Value):=hb.get 3
 clear hb
 refine sk fun K5 ad=>(wt (oM rfl (oS rfl (Yk.cell1 NA rfl j (Ai y (show _=some (NI fr:Value)from rfl)) (oS rfl (Yk.eqI (a:=(to:Nat)) (b:=(fr:Nat)) g rfl (Bm _ _ _ _) (oZ (tN (ad _ _ ?_)))))))))
 refine AO ((fr)<(to)) (vr (.bool (decide ((fr)<(to)))) rfl) (fun hc=> ?_) (fun hc=> ?_)
 ·have a4:=A1 (2*(to-fr)) (by omega)
  refine sk fun K6 ae=>(wt (oS rfl (Yk.cell1 DT rfl f (Ai ac (show _=some (v:Value)from rfl)) (oM rfl (oS rfl (Yk.cell1 NA rfl j (Ai y (show _=some (NI fr:Value)from rfl)) (oS rfl (Yk.bin (xv:=NI to) (yv:=NI fr) g rfl rfl (Bj _ _ _ (by omega) (by omega)) (oS rfl (Yk.bin (xv:=NI 2) (yv:=NI ((to)-(fr))) rfl rfl rfl (BG _ _ _ (by omega)) (oS rfl (Yk.callA2 Mw (vr v rfl) (vr (NI ((2)*((to)-(fr)))) rfl) ((Dc _ w0.heap.size v (o) hM.own hM.ext.size ((2)*((to)-(fr))) (by omega) (by omega)).mono ?_)))))))))))))
  rintro e r ⟨c,rfl,af,ag⟩
  refine⟨_,rfl,?_⟩
  have hM10:=MK.grew hM ag af
  clear hM
  have a6:r.heap[g3]? =some (.cells ([vt]:List Value).toArray 24 (0,0)):=hM10.b3
  have a7:r.heap[g5]? =some (.cells ([v]:List Value).toArray 24 (0,0)):=hM10.b5
  have a8:r.heap[g7]? =some (.cells ([NI (fr)]:List Value).toArray 3 (0,0)):=hM10.b7
  have a9:=hT.keep hM10.ext
  refine oS rfl (Yk.storeC (i:=0) (v:=c) f (vr c rfl) hM10.b5 (Nat.le_of_ble_eq_true rfl) HK (Dy hM10.own).1 (Dy hM10.own).2 fun s ah ai ba=> ?_)
  have hM20:=MK.set5 hM10 ah ai
  clear hM10
  have aj:s.heap[g3]? =some (.cells ([vt]:List Value).toArray 24 (0,0)):=hM20.b3
  have ak:s.heap[g5]? =some (.cells ([c]:List Value).toArray 24 (0,0)):=hM20.b5
  have al:s.heap[g7]? =some (.cells ([NI (fr)]:List Value).toArray 3 (0,0)):=hM20.b7
  have am:=hT.keep hM20.ext
  refine oZ (tN (ae _ _ ?_))
  refine Jb 5 _ [4] [Is (c),Is (vt),Is (NI fr),Is (NI to),fun x w' =>RB w' x ((T.drop (fr)).take ((to)-(fr))),fun x w' =>MK w0 wI w' lo g3 g5 g7 vt c x ((o++Lib.uvarint ((2)*((to)-(fr))))++(T.drop (fr)).take ((to)-(fr))) (fr)] (by kernel_rfl) [14,15,16,17,18,19] (by kernel_rfl) (by kernel_rfl) (by kernel_rfl) (by kernel_rfl) (by kernel_rfl) rfl rfl rfl rfl (Gl ⟨(fun _ _ _ h k=>RB.keep h k),trivial⟩) ⟨.inr (Stab.is _), .inr (Stab.is _), .inr (Stab.is _), .inr (Stab.is _), .inl rfl,trivial⟩ ?an ?hQ1002
  case an=>
   refine⟨?_,?_,?_,?_,?_,?_,?_,trivial⟩
   ·refine AD (Aa rfl fun σ w1 hC h=> ?_)
    have e2:=(Ab (h 2 (by decide))).trans f
    exact Yk.cell1 DT rfl e2 (Ai (eb hC ak) (show _=some (c:Value)from rfl)) ⟨Ext.refl _,rfl⟩
   ·refine AD (Aa rfl fun σ w1 hC h=> ?_)
    have e3:=(Ab (h 3 (by decide))).trans q
    exact Yk.cell1 DT rfl e3 (Ai (eb hC aj) (show _=some (vt:Value)from rfl)) ⟨Ext.refl _,rfl⟩
   ·refine AD (Aa rfl fun σ w1 hC h=> ?_)
    have e1:=(Ab (h 1 (by decide))).trans j
    exact Yk.cell1 NA rfl e1 (Ai (eb hC al) (show _=some (NI fr:Value)from rfl)) ⟨Ext.refl _,rfl⟩
   ·refine AD (Aa rfl fun σ w1 hC h=> ?_)
    have e0:=(Ab (h 0 (by decide))).trans g
    exact Yk.move e0 ⟨Ext.refl _,rfl⟩
   ·refine AD (Aa rfl fun σ w1 hC h=> ?_)
    have au:=Ab (h 15 (by decide))
    have av:=Ab (h 16 (by decide))
    have aw:=Ab (h 17 (by decide))
    exact Yk.sliceLH (xs:=T) (l:=fr) (n:=to) DT Ls rfl (RB.of (am.keep hC) au) av aw (by omega) (by omega) fun v hr _=>⟨Ext.refl _,hr⟩
   ·refine AD (Aa rfl fun σ w1 hC h=> ?_)
    have z:=Ab (h 14 (by decide))
    have ax:(fun x w' =>RB w' x ((T.drop (fr)).take ((to)-(fr)))) (σ 18) w1:=h 18 (by decide)
    have hM1:=hM20.keep hC
    exact Yk.appendRB _ _ w0.heap.size (.int .u8 0) DT FW rfl DT (o++Lib.uvarint ((2)*((to)-(fr)))) ((T.drop (fr)).take ((to)-(fr))) (BB hM1.own z) ax (by simp only[List.length_append,List.length_take,List.length_drop];omega) hM1.ext.size fun x w2 ho hg=>⟨trivial,MK.grew hM1 (z▸hg) ho⟩
   ·exact trivial
  intro aa ay he hf
  obtain⟨-,-,-,-,-,k19,-⟩:=hf
  obtain⟨g,j,f,q,-⟩:=he.hold [(0,_),(1,_),(2,_),(3,_)] ⟨g,j,f,q,trivial⟩ rfl
  clear he
  have k19:(fun x w' =>MK w0 wI w' lo g3 g5 g7 vt c x ((o++Lib.uvarint ((2)*((to)-(fr))))++(T.drop (fr)).take ((to)-(fr))) (fr)) (aa 19) ay:=k19
  obtain⟨t,ab⟩:∃v,aa 19=v:=⟨_,rfl⟩
  rw[ab]at k19
  have m:=k19;clear k19
  refine(Yk.storeC (i:=0) (v:=t) f ab m.b5 (Nat.le_of_ble_eq_true rfl) HK (Dy m.own).1 (Dy m.own).2 fun u az a0 bc=> ?_)
  have hM34:=MK.set5 m az a0
  clear m
  have bd:u.heap[g3]? =some (.cells ([vt]:List Value).toArray 24 (0,0)):=hM34.b3
  have be:u.heap[g5]? =some (.cells ([t]:List Value).toArray 24 (0,0)):=hM34.b5
  have bf:u.heap[g7]? =some (.cells ([NI (fr)]:List Value).toArray 3 (0,0)):=hM34.b7
  have bg:=hT.keep hM34.ext
  refine Fg (fn:=Tryd.f54) [] rfl [] (.tuple #[]) rfl trivial ?_
  refine⟨rfl,t,?_⟩
  rw[Ci,if_pos hc]
  exact hM34
 refine Ah (Fg (fn:=Tryd.f54) [] rfl [] (.tuple #[]) rfl trivial ?_)
 refine⟨rfl,v,?_⟩
 rw[Ci,if_neg (by omega)]
 exact hM
open Go.RowKit
section
variable {P : Program} {K : Value → World → Prop} {ρ : Aq} {w : World} {d : Option Tmp} {ty : TypeId} {pos : String} {af : Array Edge} {gd : Option (Nat × Bool)}
theorem Yk.lenOwn{t e c:TypeId}(ht:P.underlying t=some (.slice c)){x:Operand}{b z n:Nat}{xs:List Value}(h:w.ownsRow b e z (Ad ρ x) n xs)(hk:K (NI n) w):Yk P K ((execOp (Ad ρ) ⟨d, .call ⟨.builtin .len,#[x],#[t]⟩,ty,pos,af,gd⟩).run P w):=by
  rcases h.2 with ⟨a,h0⟩ | ⟨g,cap,cur,a,-⟩
  · subst h0
    exact Yk.lenSl ht a hk
  · exact Yk.lenSl ht a hk
theorem Yk.atOwn{t e c:TypeId}(ht:P.underlying t=some (.slice c))(he:∀w' :World,(sizeOf c).run P w' = .ok 1 w'){x y:Operand}{b:Nat}{xs:List Value}(h:w.ownsRow b e 1 (Ad ρ x) xs.length xs){k:IntKind}{i:Nat}(hy:Ad ρ y = .int k (i:Int))(hi:i<xs.length) 
    (hk:∀v,PCell (xs.getD i undef) v w→K v w):Yk P K ((execOp (Ad ρ) ⟨d, .indexAddr t x y,ty,pos,af,gd⟩).run P w):=by
  rcases h.2 with ⟨a,h0⟩ | ⟨g,cap,cur,a,-⟩
  · omega
  · have hc:=h.cells (g:=g) (by rw[a];rfl) i (xs.getD i undef) (by simp[hi])
    rw[Addr.add_lit]at hc
    exact Yk.atSl ht he a hy hi (hk _ ⟨_,rfl,hc⟩)
end
def BN(B T:List UInt8)(i:Nat)(pn:Nat × Nat)(q:Nat):Nat × Nat:=if pn.2<B3 (B.drop q) (T.drop i)then(q,B3 (B.drop q) (T.drop i))else pn
def BJ(B T:List UInt8)(i:Nat):Nat × Nat:=if i+8≤T.length then(posOf B (B.length-7) ((T.drop i).take 8)).foldl (BN B T i) (0,0)else(0,0)
def Cx(B T:List UInt8):Nat→Nat→Nat→List UInt8→List UInt8
  | 0,_,fr,o=>Ci T fr T.length o
  | f+1,i,fr,o=>if i<T.length then(if(BJ B T i).2=0 then Cx B T f (i+1) fr o
      else Cx B T f (i+(BJ B T i).2) (i+(BJ B T i).2) (Ci T fr i o++Lib.uvarint (2*(BJ B T i).2+1)++Lib.uvarint (BJ B T i).1))else Ci T fr T.length o
def Bv(B T:List UInt8):List UInt8:=Cx B T T.length 0 0 (Lib.uvarint B.length++Lib.uvarint T.length)
theorem Ce(T:List UInt8)(fr to:Nat)(o:List UInt8)(ht:to≤1048576):(Ci T fr to o).length≤o.length+(to-fr)+9:=by
  unfold Ci
  split
  · have:=A1 (2*(to-fr)) (by omega)
    simp only[List.length_append,List.length_take,List.length_drop]
    omega
  · omega
theorem Fi{α:Type}(f:α→Nat→α)(a:α)(zs:List Nat)(j:Nat)(h:j<zs.length):(zs.take (j+1)).foldl f a=f ((zs.take j).foldl f a) (zs.getD j 0):=by
  rw[List.take_succ_eq_append_getElem h,List.foldl_append]
  simp[h]
theorem OH(zs:List Nat)(j:Nat)(h:j<zs.length):(zs.map NI).getD j undef=NI (zs.getD j 0):=by simp[h]
theorem HM{B T:List UInt8}{f i fr:Nat}{o:List UInt8}(h:¬i<T.length):Cx B T f i fr o=Ci T fr T.length o:=by
  cases f with
  | zero=>rfl
  | succ f=>rw[Cx,if_neg h]
theorem NM{B:List UInt8}{k:Nat}{r:List UInt8}{j:Nat}(h:j<(posOf B k r).length):(posOf B k r).getD j 0<k:=by
  have hm:(posOf B k r).getD j 0∈posOf B k r:=by
    rw[List.getD_eq_getElem?_getD,List.getElem?_eq_getElem h]
    exact List.getElem_mem h
  unfold posOf at hm
  rw[List.mem_filter,List.mem_range]at hm
  exact hm.1
open Go.RowKit
set_option maxRecDepth 100000
theorem Mx{d:Option Tmp}{ty:TypeId}{pos:String}{af:Array Edge}{gd:Option (Nat × Bool)}(σ:Operand→Value)(w:World):(execOp σ ⟨d, .alloc 24,ty,pos,af,gd⟩).run Tryd.prog w = .ok (.value (PQ w.heap.size 0)) (w.alloc (.cells ([.slice none 0 0]:List Value).toArray 24)):=by kernel_rfl
theorem My:A2 Tryd.prog 53:=fun _ _=>by kernel_rfl
theorem NN{d:Option Tmp}{ty:TypeId}{pos:String}{af:Array Edge}{gd:Option (Nat × Bool)}(σ:Operand→Value)(w:World):(execOp σ ⟨d, .alloc 3,ty,pos,af,gd⟩).run Tryd.prog w = .ok (.value (PQ w.heap.size 0)) (w.alloc (.cells ([NI 0]).toArray 3)):=by kernel_rfl
theorem Mz:A2 Tryd.prog 55:=fun _ _=>by kernel_rfl
theorem Gz:A2 Tryd.prog 54:=fun _ _=>by kernel_rfl
theorem NO(w:World)(vb q:Value)(B T:List UInt8)(hrb:RB w vb B)(hrt:RB w q T)(hB:B.length≤1048576)(hTl:T.length≤1048576):
  Calls Tryd.prog 25 #[vb,q] w fun e w' =>∃v',e = .returned v' ∧Ext w w' ∧w'.ownsRow w.heap.size 5 1 v' (Bv B T).length (Lib.byteCells (Bv B T)):=by
 refine AA (args:= [vb,q]) Tryd.func25 rfl 83 rfl (Nat.le_of_ble_eq_true rfl) ?_
 intro b2 hb
 have u:b2 0=(vb:Value):=hb.get 0
 have y:b2 1=(q:Value):=hb.get 1
 clear hb
 have hE:=Ext.refl w
 refine sk fun K1 cj=>(wt (oS rfl (Yk.box1 y (RB.one (hrt.keep hE)).1 fun c w3 e8 ag ck fa=> ?_)))
 have hE:=hE.trans ck
 have aj:=ag;clear ag
 have fb:c<w3.heap.size:=by omega
 refine oA rfl (oZ ?_)
 have ai:=Ext.refl w3
 have fc:=hE
 have cl:=hE.size
 have hAS:=ai
 refine tN (cj _ _ (sk fun fd cm=> ?_))
 have fe:c<w3.heap.size:=(bl aj)
 refine Jc 5 7 _ [2] (fun a b=>Below w3.heap.size a b∧∀(g:Nat) (cs:Array Value),a.heap[g]? =some (.cells cs 24 (0,0))→b.heap[g]? =some (.cells cs 24 (0,0))) [Is (vb),Is (NI B.length),fun x w' =>w'.ownsRow w3.heap.size 5 1 x (([]:List UInt8)++Lib.uvarint B.length).length (Lib.byteCells (([]:List UInt8)++Lib.uvarint B.length)),Is (q),Is (NI T.length),fun x w' =>w'.ownsRow w3.heap.size 5 1 x (([]++Lib.uvarint B.length)++Lib.uvarint T.length).length (Lib.byteCells (([]++Lib.uvarint B.length)++Lib.uvarint T.length)),fun x w' =>∃g:Nat,x=PQ g 0∧w3.heap.size≤g∧w'.heap[g]? =some (.cells #[.slice none 0 0] 24 (0,0))] (by kernel_rfl) [15,16,17,18,19,20,5] (by kernel_rfl) (by kernel_rfl) (by kernel_rfl) (by kernel_rfl) rfl rfl rfl (by decide) rfl (Ef ⟨(fun _ _ _ h k=>Stab.own _ _ _ _ _ _ _ _ h k),(Ef ⟨(fun _ _ _ h k=>Stab.own _ _ _ _ _ _ _ _ h k),(fun _ _ _ ⟨g,h1,h2,h3⟩ k=>⟨g,h1,h2,eb k h3⟩),trivial⟩)⟩) ⟨.inr (Stab.is _), .inr (Stab.is _), .inl rfl, .inr (Stab.is _), .inr (Stab.is _), .inl rfl, .inr ((fun _ _ _ ⟨g,h1,h2,h3⟩ k=>⟨g,h1,h2,k.2 _ _ h3⟩)),trivial⟩ (fun _ _ h k=>Below.trans h k.1) ?cn ?hQ3001
 case cn=>
  refine⟨?_,?_,?_,?_,?_,?_,?_,?_,trivial⟩
  ·refine AD (Aa rfl fun σ w1 hC h=> ?_)
   have e0:=(Ab (h 0 (by decide))).trans u
   exact Yk.move e0 ⟨Ext.refl _,rfl⟩
  ·refine AD (Aa rfl fun σ w1 hC h=> ?_)
   have co:=Ab (h 15 (by decide))
   exact Yk.lenRB DT (RB.of (hrb.keep (hE.trans hC)) co) ⟨Ext.refl _,rfl⟩
  ·refine AD (Aa rfl fun σ w1 hC h=> ?_)
   have cp:=Ab (h 16 (by decide))
   have hC:Ext w3 w1:=hC
   have ap:w1.ownsRow w3.heap.size 5 1 (.slice none 0 0) ([]:List UInt8).length (Lib.byteCells ([]:List UInt8)):=World.ownsRow_nil _ _ _ 1
   refine Yk.callA2 Mw rfl cp ((Dc w1 w3.heap.size (.slice none 0 0) [] ap hC.size B.length (by omega) (by simp)).mono ?_)
   rintro e w2 ⟨v',rfl,ho,hg⟩
   exact⟨_,rfl,Ext.of hg.by_,ho⟩
  ·refine AD (Aa rfl fun σ w1 hC h=> ?_)
   have e3:σ 3=PQ c 0:=(Ab (h 3 (by decide))).trans rfl
   exact Yk.cell1 DT rfl e3 (Ai (eb hC aj) (show _=some (q:Value)from rfl)) ⟨Ext.refl _,rfl⟩
  ·refine AD (Aa rfl fun σ w1 hC h=> ?_)
   have cq:=Ab (h 18 (by decide))
   exact Yk.lenRB DT (RB.of (hrt.keep (hE.trans hC)) cq) ⟨Ext.refl _,rfl⟩
  ·refine AD (Aa rfl fun σ w1 hC h=> ?_)
   have bj:(fun x w' =>w'.ownsRow w3.heap.size 5 1 x (([]:List UInt8)++Lib.uvarint B.length).length (Lib.byteCells (([]:List UInt8)++Lib.uvarint B.length))) (σ 17) w1:=h 17 (by decide)
   have cr:=Ab (h 19 (by decide))
   have hC:Ext w3 w1:=hC
   refine Yk.callA2 Mw rfl cr ((Dc w1 w3.heap.size (σ 17) (([]:List UInt8)++Lib.uvarint B.length) bj hC.size T.length (by omega) (by have:=A1 B.length (by omega);simp;omega)).mono ?_)
   rintro e w2 ⟨v',rfl,ho,hg⟩
   exact⟨_,rfl,⟨hg.below hC.size (fun k hk=>(World.ownsRow.lt bj k hk).1),fun g cs h=>AP h hg (Ep bj h (by decide))⟩,ho⟩
  ·refine AD (Aa rfl fun σ w1 hC h=> ?_)
   have hC:Ext w3 w1:=hC
   exact Yk.alloc (cs:=([.slice none 0 0]:List Value).toArray) Mx fun g w2 hn hb hx hs=>⟨hx,g,rfl,by have:=hC.size;omega,hb⟩
  ·exact trivial
 intro bb b4 bk he hf
 obtain⟨-,-,-,-,-,k20,k5,-⟩:=hf
 obtain⟨u,y,t,T4,-⟩:=he.hold [(0,_),(1,_),(3,PQ c 0),(4,(Value.slice none 0 0))] ⟨u,y,rfl,rfl,trivial⟩ rfl
 clear he
 have hE:=hE.trans bk
 have aj:=eb bk aj
 have ai:=ai.trans bk
 have k20:(fun x w' =>w'.ownsRow w3.heap.size 5 1 x (([]++Lib.uvarint B.length)++Lib.uvarint T.length).length (Lib.byteCells (([]++Lib.uvarint B.length)++Lib.uvarint T.length))) (bb 20) b4:=k20
 obtain⟨az,b6⟩:∃v,bb 20=v:=⟨_,rfl⟩
 rw[b6]at k20
 have am:=k20;clear k20
 have k5:(fun x w' =>∃g:Nat,x=PQ g 0∧w3.heap.size≤g∧w'.heap[g]? =some (.cells #[.slice none 0 0] 24 (0,0))) (bb 5) b4:=k5
 obtain⟨ff,s⟩:∃v,bb 5=v:=⟨_,rfl⟩
 rw[s]at k5
 have ct:=k5;clear k5
 obtain⟨g5,hv5,hlo5,ag⟩:=ct
 rw[hv5]at s
 have cu:OB az g5:=Ep am ag (by decide)
 refine(Yk.storeC (i:=0) (v:=az) s b6 ag (Nat.le_of_ble_eq_true rfl) HK (Dy am).1 (Dy am).2 fun ar b8 bc fg=> ?_)
 have hE:=Ac hE bc (Nat.le_trans cl (by omega))
 have aj:=kb bc aj (by omega)
 have ai:=Ac ai bc (Nat.le_trans (Nat.le_refl _) (by omega))
 clear ag
 have am:=A7 am bc cu
 have ag:=b8;clear b8
 have fh:=bl ag
 have bd:=Ext.refl ar
 have fi:=hE
 have fj:=ai
 have fk:=hE.size
 have fl:=ai.size
 have hq3:=(bl aj)
 have hq5:=(bl ag)
 have hoP:=am
 have hzP:=hE.size
 have hzS:=hAS.size
 refine tN (cm _ _ (sk fun fm cv=>(wt (oM rfl (oS rfl (Yk.callA1 My u ((Mv _ vb B (hrb.keep hE) (by omega)).mono ?_)))))))
 rintro e au ⟨bM,baseM,rfl,hX⟩
 refine⟨_,rfl,?_⟩
 have hE:=hE.trans hX.ext
 have aj:=eb hX.ext aj
 have ai:=ai.trans hX.ext
 have am:=Stab.own _ _ _ _ _ _ _ _ am hX.ext
 have ag:=eb hX.ext ag
 have bd:=bd.trans hX.ext
 have hzI:=hX.ext.size
 have a0:=Ext.refl au
 have fo:=hE
 have fp:=ai
 have fq:=bd
 have cw:=hE.size
 have cx:=ai.size
 have fs:=bd.size
 refine oA rfl (oZ (tN (cv _ _ (sk fun ft cy=>(wt (oS rfl (Yk.alloc (cs:=([NI 0]).toArray) NN fun m cz b9 ca a1 fu=> ?_)))))))
 have fv:=AT (bl aj) b9
 have fw:=AT (bl ag) b9
 have c0:OB az m:=AV am (by omega)
 have hE:=hE.trans a1
 have aj:=eb a1 aj
 have ai:=ai.trans a1
 have am:=Stab.own _ _ _ _ _ _ _ _ am a1
 have ag:=eb a1 ag
 have a0:=a0.trans a1
 have a7:=ca;clear ca
 have fx:m<cz.heap.size:=by omega
 refine oS rfl (Yk.storeC (i:=0) (v:=NI 0) (vr (PQ m 0) rfl) (vr (NI 0) rfl) a7 (Nat.le_of_ble_eq_true rfl) JE rfl rfl fun c1 cb a2 fy=> ?_)
 have hE:=Ac hE a2 (Nat.le_trans cw (by omega))
 have aj:=kb a2 aj (by omega)
 have ai:=Ac ai a2 (Nat.le_trans cx (by omega))
 have am:=A7 am a2 c0
 have ag:=kb a2 ag (by omega)
 have a0:=Ac a0 a2 (Nat.le_trans (Nat.le_refl _) (by omega))
 clear a7
 have a7:=cb;clear cb
 have fz:=bl a7
 refine oZ (tN (cy _ _ (sk fun f0 c2=>(wt (oS rfl (Yk.mkFunc (vs:= #[PQ m 0,PQ g5 0,PQ c 0]) (by simp only[List.map_toArray,List.map_cons,List.map_nil];exact congrArg List.toArray (Pb (vr (PQ m 0) rfl) s t)) (oA rfl (oZ (tN (c2 _ _ (sk fun f1 c3=>(sk fun f2 c4=>(wt (oA rfl (AH [(0,vb),(1,q),(3,PQ c 0),(4,(Value.slice none 0 0)),(5,PQ g5 0),(6, .map (some bM)),(7,PQ m 0),(8, .func (.func 54) #[] #[PQ m 0,PQ g5 0,PQ c 0]),(9,NI 0)] ⟨u,y,t,T4,s,rfl,rfl,rfl,rfl,trivial⟩ fun f3 ⟨u,y,t,T4,s,T6,T7,z,r,_⟩=>(tN (c4 _ _ (Aj ?_))))))))))))))))))
 have hM0:MK w au c1 ar.heap.size c g5 m q az az (([]++Lib.uvarint B.length)++Lib.uvarint T.length) (0):=⟨hE,aj,ag,a7,CU am (by omega),fun k h1 h2=>a0.block k h2,fun k hk=> .inl (hoP.lt k hk).2,by omega,by omega,by omega,hq3,hq5,by omega,by omega,by omega,by omega⟩
 have hT:=hrt
 refine AX (fun(ρ:Aq) (wz:World)=>∃ia:Nat,∃fr:Nat,∃f:Nat,∃o:List UInt8,∃v:Value,ρ 0=(vb:Value)∧ρ 1=(q:Value)∧ρ 3=(PQ c 0:Value)∧ρ 4=((Value.slice none 0 0):Value)∧ρ 5=(PQ g5 0:Value)∧ρ 6=(.map (some bM):Value)∧ρ 7=(PQ m 0:Value)∧ρ 8=(.func (.func 54) #[] #[PQ m 0,PQ g5 0,PQ c 0]:Value)∧ρ 9=(NI ia:Value)∧Ext w wz∧MK w au wz ar.heap.size c g5 m q v v (o) (fr)∧(Cx B T f ia fr o=Bv B T)∧(T.length≤ia+f)∧(fr≤ia)∧(ia≤T.length)∧(o.length≤20+40*fr)∧True) (fun ρ _=>T.length-(intOf (ρ 9)).toNat) ⟨0,0,T.length,([]++Lib.uvarint B.length)++Lib.uvarint T.length,az,u,y,t,T4,s,T6,T7,z,r,hE,hM0,(show Cx B T T.length 0 0 _=_ from by rw[Bv,List.nil_append]),by omega,Nat.le_refl _,Nat.zero_le _,by have:=A1 B.length (by omega);have:=A1 T.length (by omega);simp only[List.length_append,List.length_nil];omega,trivial⟩ ?_
 clear ai
 clear a0
 clear hM0
 clear hE
 rintro be bm ⟨ia,fr,f,o,v,u,y,t,T4,s,T6,T7,z,r,hE,hM,hgo,hf,hfr,hat,hol,-⟩
 have q9:=r
 have an:bm.heap[c]? =some (.cells ([q]:List Value).toArray 24 (0,0)):=hM.b3
 have aw:bm.heap[g5]? =some (.cells ([v]:List Value).toArray 24 (0,0)):=hM.b5
 have ax:bm.heap[m]? =some (.cells ([NI (fr)]:List Value).toArray 3 (0,0)):=hM.b7
 refine sk fun f4 c5=>(sk fun f5 c6=>(wt (oM rfl (oS rfl (Yk.cell1 DT rfl t (Ai an (show _=some (q:Value)from rfl)) (oS rfl (Yk.lenRB DT (RB.of (hrt.keep hE) (vr q rfl)) (oS rfl (Yk.eqI (a:=(ia:Nat)) (b:=(T.length:Nat)) r rfl (AN _ _ _ _) (oZ (tN (c6 _ _ ?_))))))))))))
 refine AO ((ia)<(T.length)) (vr (.bool (decide ((ia)<(T.length)))) rfl) (fun a3=> ?_) (fun a3=> ?_)
 ·obtain⟨f',rfl⟩:∃f',f=f' +1:=⟨f-1,by omega⟩
  refine Ah (tN (c5 _ _ (Aj (sk fun f6 c7=>(wt (oA rfl (oA rfl (oZ (tN (c7 _ _ (sk fun f7 cc=>(sk fun f8 c8=>(wt (oM rfl (oS rfl (Yk.bin (xv:=NI ia) (yv:=NI 8) r rfl rfl (Ak _ _ _ (by omega)) (oS rfl (Yk.cell1 DT rfl t (Ai an (show _=some (q:Value)from rfl)) (oS rfl (Yk.lenRB DT (RB.of (hrt.keep hE) (vr q rfl)) ?_))))))))))))))))))))
  refine oS rfl (Yk.eqI (a:=((ia)+(8):Nat)) (b:=(T.length:Nat)) rfl rfl (C5 _ _ _ _) (AH [(0,vb),(1,q),(3,PQ c 0),(4,(Value.slice none 0 0)),(5,PQ g5 0),(6, .map (some bM)),(7,PQ m 0),(8, .func (.func 54) #[] #[PQ m 0,PQ g5 0,PQ c 0]),(9,NI ia),(10,NI 0),(11,NI 0),(32, .bool (decide (((ia)+(8))≤(T.length))))] ⟨u,y,t,T4,s,T6,T7,z,r,rfl,rfl,rfl,trivial⟩ fun f9 ⟨u,y,t,T4,s,T6,T7,z,r,ae,ad,c9,_⟩=>(tN (c8 _ _ ?_))))
  refine AO (((ia)+(8))≤(T.length)) c9 (fun bn=> ?_) (fun bn=> ?_)
  ·have hrl:((T.drop ia).take (ia+8-ia)).length=8:=by rw[List.length_take,List.length_drop];omega
   have hrl8:((T.drop ia).take 8).length=8:=by rw[List.length_take,List.length_drop];omega
   refine sk fun ga da=>(wt (oM rfl (oS rfl (Yk.cell1 DT rfl t (Ai an (show _=some (q:Value)from rfl)) (oM rfl (oM rfl (oS rfl (Yk.bin (xv:=NI ia) (yv:=NI 8) r rfl rfl (Ak _ _ _ (by omega)) (oS rfl (Yk.sliceLH (xs:=T) (l:=ia) (n:=(ia)+(8)) DT Ls (vr q rfl) (hrt.keep hE) r (vr (NI ((ia)+(8))) rfl) (by omega) (by omega) fun cd aq ha76=>(oS rfl (Yk.toArr F3 (RB.of aq (vr cd rfl)) (l:=(T.drop (ia)).take (((ia)+(8))-(ia))) (n:=8) (by rw[List.length_take,List.length_drop];omega) (by decide) fun db dc dd=>(oS rfl (Yk.loadPart (vr (PQ db dc) rfl) (show World.rangeAt _ _ _ (Lib.byteCells ((T.drop ia).take 8))from by simpa only[Nat.add_sub_cancel_left] using dd) F3 rfl (by rw[Lib.byteCells_length,hrl8];exact Fy) (oS rfl (Yk.look Ms Mt Mu JJ T6 (vr (AB ((T.drop ia).take 8)) rfl) (MK.idx hM hX.idx hX.lo) hrl8 fun av ao=>(oS rfl (Yk.lenOwn ID (BB ao (vr av rfl)) (oM rfl (AH [(0,vb),(1,q),(3,PQ c 0),(4,(Value.slice none 0 0)),(5,PQ g5 0),(6, .map (some bM)),(7,PQ m 0),(8, .func (.func 54) #[] #[PQ m 0,PQ g5 0,PQ c 0]),(9,NI ia),(10,NI 0),(11,NI 0),(41,av),(42,NI ((posOf B (B.length-7) ((T.drop ia).take 8)).length)),(43,NI 0)] ⟨u,y,t,T4,s,T6,T7,z,r,ae,ad,rfl,rfl,rfl,trivial⟩ fun gb ⟨u,y,t,T4,s,T6,T7,z,r,ae,ad,ak,al,af,_⟩=>(tN (da _ _ (Aj ?_)))))))))))))))))))))))
   refine AX (fun(ρ:Aq) (wz:World)=>∃j:Nat,∃p:Nat,∃n:Nat,ρ 0=(vb:Value)∧ρ 1=(q:Value)∧ρ 3=(PQ c 0:Value)∧ρ 4=((Value.slice none 0 0):Value)∧ρ 5=(PQ g5 0:Value)∧ρ 6=(.map (some bM):Value)∧ρ 7=(PQ m 0:Value)∧ρ 8=(.func (.func 54) #[] #[PQ m 0,PQ g5 0,PQ c 0]:Value)∧ρ 9=(NI ia:Value)∧ρ 41=(av:Value)∧ρ 42=(NI ((posOf B (B.length-7) ((T.drop ia).take 8)).length):Value)∧ρ 43=(NI j:Value)∧ρ 10=(NI p:Value)∧ρ 11=(NI n:Value)∧Ext w wz∧MK w au wz ar.heap.size c g5 m q v v (o) (fr)∧wz.heap[c]? =some (.cells ([q]:List Value).toArray 24 (0,0))∧wz.heap[g5]? =some (.cells ([v]:List Value).toArray 24 (0,0))∧wz.heap[m]? =some (.cells ([NI (fr)]:List Value).toArray 3 (0,0))∧RB wz cd ((T.drop (ia)).take (((ia)+(8))-(ia)))∧wz.ownsRow baseM 3 1 av (posOf B (B.length-7) ((T.drop ia).take 8)).length ((posOf B (B.length-7) ((T.drop ia).take 8)).map NI)∧(j≤(posOf B (B.length-7) ((T.drop ia).take 8)).length)∧(((posOf B (B.length-7) ((T.drop ia).take 8)).take j).foldl (BN B T ia) (0,0)=(p,n))∧(p≤B.length)∧(n≤T.length-ia)∧True) (fun ρ _=>(posOf B (B.length-7) ((T.drop ia).take 8)).length-(intOf (ρ 43)).toNat) ⟨0,0,0,u,y,t,T4,s,T6,T7,z,r,ak,al,af,ae,ad,hE,hM,an,aw,ax,aq,ao,Nat.zero_le _,rfl,Nat.zero_le _,Nat.zero_le _,trivial⟩ ?_
   clear hE hM an aw ax aq ao
   rintro ce gc ⟨j,p,n,u,y,t,T4,s,T6,T7,z,r,ak,al,af,ae,ad,hE,hM,an,aw,ax,aq,ao,hjl,hbp,hp,hn,-⟩
   have q43:=af
   refine sk fun gd de=>(wt (oS rfl (Yk.eqI (a:=(j:Nat)) (b:=((posOf B (B.length-7) ((T.drop ia).take 8)).length:Nat)) af al (AN _ _ _ _) (oZ (tN (de _ _ (sk fun ge df=> ?_)))))))
   refine AO ((j)<((posOf B (B.length-7) ((T.drop ia).take 8)).length)) (vr (.bool (decide ((j)<((posOf B (B.length-7) ((T.drop ia).take 8)).length)))) rfl) (fun hj=> ?_) (fun hj=> ?_)
   ·have hq:=NM hj
    have hpl:=posOf_length B (B.length-7) ((T.drop ia).take 8)
    refine Ah (tN (df _ _ (sk fun gf cf=>(Aj (sk fun gg dg=>(wt (oS rfl (Yk.atOwn (xs:=(posOf B (B.length-7) ((T.drop ia).take 8)).map NI) ID FL (by rw[List.length_map];exact BB ao ak) af (by rw[List.length_map];exact hj) fun dh bo=> ?_))))))))
    rw[OH _ _ hj]at bo
    refine oS rfl (Yk.loadC NA rfl (PCell.of bo (vr dh rfl)) (oA rfl (oZ ?_)))
    clear bo
    refine tN (dg _ _ (sk fun gh di=> ?_))
    refine Be [Is (vb),Is (NI ((posOf B (B.length-7) ((T.drop ia).take 8)).getD j 0)),fun x w' =>RB w' x (B.drop ((posOf B (B.length-7) ((T.drop ia).take 8)).getD j 0)),Is (q),Is (NI ia),fun x w' =>RB w' x (T.drop (ia)),Is (NI (B3 (B.drop ((posOf B (B.length-7) ((T.drop ia).take 8)).getD j 0)) (T.drop (ia)))),Is (NI (B3 (B.drop ((posOf B (B.length-7) ((T.drop ia).take 8)).getD j 0)) (T.drop (ia))))] (by kernel_rfl) [47,48,49,50,51,52,53,14] (by kernel_rfl) (by kernel_rfl) (Ef ⟨(fun _ _ _ h k=>RB.keep h k),(Ef ⟨(fun _ _ _ h k=>RB.keep h k),(Ef trivial)⟩)⟩) ?dj ?hQ4012
    case dj=>
     refine⟨?_,?_,?_,?_,?_,?_,?_,?_,trivial⟩
     ·refine Aa rfl fun σ w1 hC h=> ?_
      have e0:=(Ab (h 0 (by decide))).trans u
      exact Yk.move e0 ⟨Ext.refl _,rfl⟩
     ·refine Aa rfl fun σ w1 hC h=> ?_
      have dk:σ 13=NI ((posOf B (B.length-7) ((T.drop ia).take 8)).getD j 0):=(Ab (h 13 (by decide))).trans rfl
      exact Yk.move dk ⟨Ext.refl _,rfl⟩
     ·refine Aa rfl fun σ w1 hC h=> ?_
      have dl:=Ab (h 47 (by decide))
      have dm:=Ab (h 48 (by decide))
      exact Yk.sliceLo (xs:=B) (l:=(posOf B (B.length-7) ((T.drop ia).take 8)).getD j 0) DT Ls rfl (RB.of (hrb.keep (hE.trans hC)) dl) dm (by omega) fun v hr _=>⟨Ext.refl _,hr⟩
     ·refine Aa rfl fun σ w1 hC h=> ?_
      have e3:=(Ab (h 3 (by decide))).trans t
      exact Yk.cell1 DT rfl e3 (Ai (eb hC an) (show _=some (q:Value)from rfl)) ⟨Ext.refl _,rfl⟩
     ·refine Aa rfl fun σ w1 hC h=> ?_
      have e9:=(Ab (h 9 (by decide))).trans r
      exact Yk.move e9 ⟨Ext.refl _,rfl⟩
     ·refine Aa rfl fun σ w1 hC h=> ?_
      have dp:=Ab (h 50 (by decide))
      have dq:=Ab (h 51 (by decide))
      exact Yk.sliceLo (xs:=T) (l:=ia) DT Ls rfl (RB.of (hrt.keep (hE.trans hC)) dp) dq (by omega) fun v hr _=>⟨Ext.refl _,hr⟩
     ·refine Aa rfl fun σ w1 hC h=> ?_
      have dr:(fun x w' =>RB w' x (B.drop ((posOf B (B.length-7) ((T.drop ia).take 8)).getD j 0))) (σ 49) w1:=h 49 (by decide)
      have ds:(fun x w' =>RB w' x (T.drop (ia))) (σ 52) w1:=h 52 (by decide)
      refine Yk.callA2 Mz rfl rfl ((LA _ (σ 49) (σ 52) (B.drop ((posOf B (B.length-7) ((T.drop ia).take 8)).getD j 0)) (T.drop (ia)) dr ds (by simp only[List.length_drop];omega)).mono ?_)
      rintro e w2 ⟨rfl,hx⟩
      exact⟨_,rfl,hx,rfl⟩
     ·refine Aa rfl fun σ w1 hC h=> ?_
      have dt:=Ab (h 53 (by decide))
      exact Yk.assign dt ⟨Ext.refl _,rfl⟩
    intro du dv ay he hf
    obtain⟨-,-,-,-,-,-,-,k14,-⟩:=hf
    obtain⟨u,y,t,T4,s,T6,T7,z,r,ae,ad,a8,ak,al,af,-⟩:=he.hold [(0,_),(1,_),(3,_),(4,_),(5,_),(6,_),(7,_),(8,_),(9,_),(10,_),(11,_),(13,NI ((posOf B (B.length-7) ((T.drop ia).take 8)).getD j 0)),(41,_),(42,_),(43,_)] ⟨u,y,t,T4,s,T6,T7,z,r,ae,ad,rfl,ak,al,af,trivial⟩ rfl
    clear he
    have hE:=hE.trans ay
    have hM:MK w au dv ar.heap.size c g5 m q v v (o) (fr):=(hM.keep ay)
    have an:=eb ay an
    have aw:=eb ay aw
    have ax:=eb ay ax
    have aq:=aq.keep ay
    have ao:=Stab.own _ _ _ _ _ _ _ _ ao ay
    have a4:du 14=NI (B3 (B.drop ((posOf B (B.length-7) ((T.drop ia).take 8)).getD j 0)) (T.drop (ia))):=k14
    clear k14
    refine tN (di _ _ (sk fun gi dw=>(wt (oM rfl (oM rfl (oS rfl (Yk.eqI (a:=(B3 (B.drop ((posOf B (B.length-7) ((T.drop ia).take 8)).getD j 0)) (T.drop (ia)):Nat)) (b:=(n:Nat)) a4 ad (Bm _ _ _ _) (oZ (tN (dw _ _ ?_))))))))))
    refine AO ((n)<(B3 (B.drop ((posOf B (B.length-7) ((T.drop ia).take 8)).getD j 0)) (T.drop (ia)))) (vr (.bool (decide ((n)<(B3 (B.drop ((posOf B (B.length-7) ((T.drop ia).take 8)).getD j 0)) (T.drop (ia)))))) rfl) (fun bp=> ?_) (fun bp=> ?_)
    ·refine wt (oM rfl (oM rfl (oA rfl (oA rfl (oZ (bN (tN (cf _ _ (wt (oS rfl (Yk.bin (xv:=NI j) (yv:=NI 1) af rfl rfl (Ak _ _ _ (by omega)) (oM rfl (AH [(0,vb),(1,q),(3,PQ c 0),(4,(Value.slice none 0 0)),(5,PQ g5 0),(6, .map (some bM)),(7,PQ m 0),(8, .func (.func 54) #[] #[PQ m 0,PQ g5 0,PQ c 0]),(9,NI ia),(10,NI ((posOf B (B.length-7) ((T.drop ia).take 8)).getD j 0)),(11,NI (B3 (B.drop ((posOf B (B.length-7) ((T.drop ia).take 8)).getD j 0)) (T.drop (ia)))),(13,NI ((posOf B (B.length-7) ((T.drop ia).take 8)).getD j 0)),(14,NI (B3 (B.drop ((posOf B (B.length-7) ((T.drop ia).take 8)).getD j 0)) (T.drop (ia)))),(41,av),(42,NI ((posOf B (B.length-7) ((T.drop ia).take 8)).length)),(43,NI ((j)+(1)))] ⟨u,y,t,T4,s,T6,T7,z,r,a8,a4,a8,a4,ak,al,rfl,trivial⟩ fun dx ⟨u,y,t,T4,s,T6,T7,z,r,ae,ad,a8,a4,ak,al,af,_⟩=>(tN (And.intro ⟨j+1,(posOf B (B.length-7) ((T.drop ia).take 8)).getD j 0,B3 (B.drop ((posOf B (B.length-7) ((T.drop ia).take 8)).getD j 0)) (T.drop ia),u,y,t,T4,s,T6,T7,z,r,ak,al,af,ae,ad,hE,hM,an,aw,ax,aq,ao,by omega,by rw[Fi _ _ _ _ hj,hbp,BN,if_pos bp],by omega,by have:=(HJ (B.drop ((posOf B (B.length-7) ((T.drop ia).take 8)).getD j 0)) (T.drop ia)).2;rw[List.length_drop]at this;omega,trivial⟩ ?_)))))))))))))))
     show(posOf B (B.length-7) ((T.drop ia).take 8)).length-(intOf (dx 43)).toNat<(posOf B (B.length-7) ((T.drop ia).take 8)).length-(intOf (ce 43)).toNat
     rw[af,q43]
     simp only[intOf,Int.toNat_natCast];omega
    refine Ah (bN (tN (cf _ _ (wt (oS rfl (Yk.bin (xv:=NI j) (yv:=NI 1) af rfl rfl (Ak _ _ _ (by omega)) (oM rfl (AH [(0,vb),(1,q),(3,PQ c 0),(4,(Value.slice none 0 0)),(5,PQ g5 0),(6, .map (some bM)),(7,PQ m 0),(8, .func (.func 54) #[] #[PQ m 0,PQ g5 0,PQ c 0]),(9,NI ia),(10,NI p),(11,NI n),(13,NI ((posOf B (B.length-7) ((T.drop ia).take 8)).getD j 0)),(14,NI (B3 (B.drop ((posOf B (B.length-7) ((T.drop ia).take 8)).getD j 0)) (T.drop (ia)))),(41,av),(42,NI ((posOf B (B.length-7) ((T.drop ia).take 8)).length)),(43,NI ((j)+(1)))] ⟨u,y,t,T4,s,T6,T7,z,r,ae,ad,a8,a4,ak,al,rfl,trivial⟩ fun dy ⟨u,y,t,T4,s,T6,T7,z,r,ae,ad,a8,a4,ak,al,af,_⟩=>(tN (And.intro ⟨j+1,p,n,u,y,t,T4,s,T6,T7,z,r,ak,al,af,ae,ad,hE,hM,an,aw,ax,aq,ao,by omega,by rw[Fi _ _ _ _ hj,hbp,BN,if_neg bp],by omega,hn,trivial⟩ ?_))))))))))
    show(posOf B (B.length-7) ((T.drop ia).take 8)).length-(intOf (dy 43)).toNat<(posOf B (B.length-7) ((T.drop ia).take 8)).length-(intOf (ce 43)).toNat
    rw[af,q43]
    simp only[intOf,Int.toNat_natCast];omega
   rw[show(posOf B (B.length-7) ((T.drop ia).take 8)).take j=posOf B (B.length-7) ((T.drop ia).take 8)from List.take_of_length_le (by omega)]at hbp
   have hbe:BJ B T ia=(p,n):=by rw[BJ,if_pos bn,hbp]
   refine AJ (Ag (Ag (Ap (tN (cc _ _ (sk fun gj dz=>(sk fun gk d0=>(wt (oM rfl (oS rfl (Yk.eqI (a:=(n:Nat)) (b:=(0:Nat)) ad rfl (Br _ _ _ _) (oZ (tN (d0 _ _ ?_))))))))))))))
   refine AO ((n:Nat)=(0)) (vr (.bool (decide ((n:Nat)=(0)))) rfl) (fun ap=> ?_) (fun ap=> ?_)
   ·refine sk fun gl d1=>(wt (oM rfl (oS rfl (Yk.bin (xv:=NI ia) (yv:=NI 1) r rfl rfl (Ak _ _ _ (by omega)) (oA rfl (AH [(0,vb),(1,q),(3,PQ c 0),(4,(Value.slice none 0 0)),(5,PQ g5 0),(6, .map (some bM)),(7,PQ m 0),(8, .func (.func 54) #[] #[PQ m 0,PQ g5 0,PQ c 0]),(9,NI ((ia)+(1))),(10,NI p),(11,NI n),(41,av),(42,NI ((posOf B (B.length-7) ((T.drop ia).take 8)).length)),(43,NI j)] ⟨u,y,t,T4,s,T6,T7,z,rfl,ae,ad,ak,al,af,trivial⟩ fun d2 ⟨u,y,t,T4,s,T6,T7,z,r,ae,ad,ak,al,af,_⟩=>(tN (d1 _ _ (AJ (Ag (Ap (tN (And.intro ⟨ia+1,fr,f',o,v,u,y,t,T4,s,T6,T7,z,r,hE,hM,by rw[Cx,if_pos a3,if_pos (by rw[hbe];exact ap)]at hgo;exact hgo,by omega,by omega,by omega,hol,trivial⟩ ?_)))))))))))))
    show T.length-(intOf (d2 9)).toNat<T.length-(intOf (be 9)).toNat
    rw[r,q9]
    simp only[intOf,Int.toNat_natCast];omega
   refine Ah (tN (dz _ _ (sk fun gm d3=>(wt (oM rfl (oM rfl (oS rfl (Yk.clo Gz (caps:= #[PQ m 0,PQ g5 0,PQ c 0]) z #[NI ia,PQ m 0,PQ g5 0,PQ c 0] (by simp only[List.map_toArray,List.map_cons,List.map_nil,List.append_toArray,List.cons_append,List.nil_append];exact congrArg List.toArray (Lr r rfl rfl rfl)) ((Gy w au _ (ar.heap.size) c g5 m q v (o) T (fr) (ia) hM hT (by omega) (by omega) (by omega) (by omega)).mono ?_)))))))))
   rintro e bq ⟨rfl,a5,hM104⟩
   refine⟨_,rfl,?_⟩
   have hE:=hM104.ext
   clear hM
   clear aq
   clear ao
   have gn:bq.heap[c]? =some (.cells ([q]:List Value).toArray 24 (0,0)):=hM104.b3
   have d4:bq.heap[g5]? =some (.cells ([a5]:List Value).toArray 24 (0,0)):=hM104.b5
   have go:bq.heap[m]? =some (.cells ([NI (fr)]:List Value).toArray 3 (0,0)):=hM104.b7
   refine oZ ?_
   have hfl:=Ce T fr ia o (by omega)
   have d5:=A1 (2*n+1) (by omega)
   have d6:=A1 p (by omega)
   refine tN (d3 _ _ (sk fun gp d7=>(wt (oS rfl (Yk.cell1 DT rfl s (Ai d4 (show _=some (a5:Value)from rfl)) (oM rfl (oS rfl (Yk.bin (xv:=NI 2) (yv:=NI n) rfl ad rfl (BG _ _ _ (by omega)) (oS rfl (Yk.bin (xv:=NI ((2)*(n))) (yv:=NI 1) rfl rfl rfl (Ak _ _ _ (by omega)) (oS rfl (Yk.callA2 Mw (vr a5 rfl) (vr (NI (((2)*(n))+(1))) rfl) ((Dc _ w.heap.size a5 (Ci T (fr) (ia) (o)) hM104.own hM104.ext.size (((2)*(n))+(1)) (by omega) (by first | omega | (simp only[List.length_append];omega))).mono ?_)))))))))))))
   rintro e br ⟨cg,rfl,d8,d9⟩
   refine⟨_,rfl,?_⟩
   have hM113:=MK.grew hM104 d9 d8
   have hE:=hM113.ext
   clear hM104
   have gq:br.heap[c]? =some (.cells ([q]:List Value).toArray 24 (0,0)):=hM113.b3
   have gr:br.heap[g5]? =some (.cells ([a5]:List Value).toArray 24 (0,0)):=hM113.b5
   have gs:br.heap[m]? =some (.cells ([NI (fr)]:List Value).toArray 3 (0,0)):=hM113.b7
   refine oM rfl (oS rfl (Yk.callA2 Mw (vr cg rfl) ae ((Dc _ w.heap.size cg (Ci T (fr) (ia) (o)++Lib.uvarint (((2)*(n))+(1))) hM113.own hM113.ext.size (p) (by omega) (by first | omega | (simp only[List.length_append];omega))).mono ?_)))
   rintro e bs ⟨a9,rfl,ea,ec⟩
   refine⟨_,rfl,?_⟩
   have hM121:=MK.grew hM113 ec ea
   have hE:=hM121.ext
   clear hM113
   have gt:bs.heap[c]? =some (.cells ([q]:List Value).toArray 24 (0,0)):=hM121.b3
   have gu:bs.heap[g5]? =some (.cells ([a5]:List Value).toArray 24 (0,0)):=hM121.b5
   have gv:bs.heap[m]? =some (.cells ([NI (fr)]:List Value).toArray 3 (0,0)):=hM121.b7
   refine oS rfl (Yk.storeC (i:=0) (v:=a9) s (vr a9 rfl) hM121.b5 (Nat.le_of_ble_eq_true rfl) HK (Dy hM121.own).1 (Dy hM121.own).2 fun bt ed ee gw=> ?_)
   have hM130:=MK.set5 hM121 ed ee
   have hE:=hM130.ext
   clear hM121
   have gx:bt.heap[c]? =some (.cells ([q]:List Value).toArray 24 (0,0)):=hM130.b3
   have gy:bt.heap[g5]? =some (.cells ([a9]:List Value).toArray 24 (0,0)):=hM130.b5
   have gz:bt.heap[m]? =some (.cells ([NI (fr)]:List Value).toArray 3 (0,0)):=hM130.b7
   refine oZ (tN (d7 _ _ (sk fun g0 ef=>(wt (oM rfl (oM rfl (oS rfl (Yk.bin (xv:=NI ia) (yv:=NI n) r ad rfl (Ak _ _ _ (by omega)) (oA rfl (oZ (tN (ef _ _ (wt (oM rfl (oS rfl (Yk.storeC (i:=0) (v:=NI ((ia)+(n))) T7 (vr (NI ((ia)+(n))) rfl) hM130.b7 (Nat.le_of_ble_eq_true rfl) JE rfl rfl fun bu eg eh g1=> ?_))))))))))))))))
   have hM139:=MK.set7 (n:=(ia)+(n)) hM130 eg eh
   have hE:=hM139.ext
   clear hM130
   have g2:bu.heap[c]? =some (.cells ([q]:List Value).toArray 24 (0,0)):=hM139.b3
   have g3:bu.heap[g5]? =some (.cells ([a9]:List Value).toArray 24 (0,0)):=hM139.b5
   have g4:bu.heap[m]? =some (.cells ([NI ((ia)+(n))]:List Value).toArray 3 (0,0)):=hM139.b7
   refine AH [(0,vb),(1,q),(3,PQ c 0),(4,(Value.slice none 0 0)),(5,PQ g5 0),(6, .map (some bM)),(7,PQ m 0),(8, .func (.func 54) #[] #[PQ m 0,PQ g5 0,PQ c 0]),(9,NI ((ia)+(n))),(10,NI p),(11,NI n),(41,av),(42,NI ((posOf B (B.length-7) ((T.drop ia).take 8)).length)),(43,NI j)] ⟨u,y,t,T4,s,T6,T7,z,rfl,ae,ad,ak,al,af,trivial⟩ fun ei ⟨u,y,t,T4,s,T6,T7,z,r,ae,ad,ak,al,af,_⟩=>(bN (tN (And.intro ⟨ia+n,ia+n,f',Ci T (fr) (ia) (o)++Lib.uvarint (((2)*(n))+(1))++Lib.uvarint (p),a9,u,y,t,T4,s,T6,T7,z,r,hE,hM139,by rw[Cx,if_pos a3,if_neg (by rw[hbe];exact ap),hbe]at hgo;exact hgo,by omega,by omega,by omega,by have h5:=Ce T fr ia o (by omega);have h6:=A1 (2*n+1) (by omega);have h7:=A1 p (by omega);simp only[List.length_append];omega,trivial⟩ ?_)))
   show T.length-(intOf (ei 9)).toNat<T.length-(intOf (be 9)).toNat
   rw[r,q9]
   simp only[intOf,Int.toNat_natCast];omega
  obtain⟨p,ch⟩:∃p,p=0:=⟨_,rfl⟩
  obtain⟨n,hnz⟩:∃n,n=0:=⟨_,rfl⟩
  have ae:=ae.trans (show(Value.int .i64 ((0:Nat):Int))=NI p by rw[ch])
  have ad:=ad.trans (show(Value.int .i64 ((0:Nat):Int))=NI n by rw[hnz])
  have hbe:BJ B T ia=(p,n):=by rw[BJ,if_neg bn,ch,hnz]
  have hp:p≤B.length:=by omega
  have hn:n≤T.length-ia:=by omega
  refine Ah (tN (cc _ _ (sk fun g6 ej=>(sk fun g7 el=>(wt (oM rfl (oS rfl (Yk.eqI (a:=(n:Nat)) (b:=(0:Nat)) ad rfl (Br _ _ _ _) (oZ (tN (el _ _ ?_)))))))))))
  refine AO ((n:Nat)=(0)) (vr (.bool (decide ((n:Nat)=(0)))) rfl) (fun ap=> ?_) (fun ap=> ?_)
  ·refine sk fun g8 em=>(wt (oM rfl (oS rfl (Yk.bin (xv:=NI ia) (yv:=NI 1) r rfl rfl (Ak _ _ _ (by omega)) (oA rfl (AH [(0,vb),(1,q),(3,PQ c 0),(4,(Value.slice none 0 0)),(5,PQ g5 0),(6, .map (some bM)),(7,PQ m 0),(8, .func (.func 54) #[] #[PQ m 0,PQ g5 0,PQ c 0]),(9,NI ((ia)+(1))),(10,NI p),(11,NI n)] ⟨u,y,t,T4,s,T6,T7,z,rfl,ae,ad,trivial⟩ fun en ⟨u,y,t,T4,s,T6,T7,z,r,ae,ad,_⟩=>(tN (em _ _ (AJ (Ag (Ap (tN (And.intro ⟨ia+1,fr,f',o,v,u,y,t,T4,s,T6,T7,z,r,hE,hM,by rw[Cx,if_pos a3,if_pos (by rw[hbe];exact ap)]at hgo;exact hgo,by omega,by omega,by omega,hol,trivial⟩ ?_)))))))))))))
   show T.length-(intOf (en 9)).toNat<T.length-(intOf (be 9)).toNat
   rw[r,q9]
   simp only[intOf,Int.toNat_natCast];omega
  refine Ah (tN (ej _ _ (sk fun g9 eo=>(wt (oM rfl (oM rfl (oS rfl (Yk.clo Gz (caps:= #[PQ m 0,PQ g5 0,PQ c 0]) z #[NI ia,PQ m 0,PQ g5 0,PQ c 0] (by simp only[List.map_toArray,List.map_cons,List.map_nil,List.append_toArray,List.cons_append,List.nil_append];exact congrArg List.toArray (Lr r rfl rfl rfl)) ((Gy w au _ (ar.heap.size) c g5 m q v (o) T (fr) (ia) hM hT (by omega) (by omega) (by omega) (by omega)).mono ?_)))))))))
  rintro e bv ⟨rfl,a6,hM150⟩
  refine⟨_,rfl,?_⟩
  have hE:=hM150.ext
  clear hM
  have ha:bv.heap[c]? =some (.cells ([q]:List Value).toArray 24 (0,0)):=hM150.b3
  have ep:bv.heap[g5]? =some (.cells ([a6]:List Value).toArray 24 (0,0)):=hM150.b5
  have hc:bv.heap[m]? =some (.cells ([NI (fr)]:List Value).toArray 3 (0,0)):=hM150.b7
  refine oZ ?_
  have hfl:=Ce T fr ia o (by omega)
  have d5:=A1 (2*n+1) (by omega)
  have d6:=A1 p (by omega)
  refine tN (eo _ _ (sk fun hd eq=>(wt (oS rfl (Yk.cell1 DT rfl s (Ai ep (show _=some (a6:Value)from rfl)) (oM rfl (oS rfl (Yk.bin (xv:=NI 2) (yv:=NI n) rfl ad rfl (BG _ _ _ (by omega)) (oS rfl (Yk.bin (xv:=NI ((2)*(n))) (yv:=NI 1) rfl rfl rfl (Ak _ _ _ (by omega)) (oS rfl (Yk.callA2 Mw (vr a6 rfl) (vr (NI (((2)*(n))+(1))) rfl) ((Dc _ w.heap.size a6 (Ci T (fr) (ia) (o)) hM150.own hM150.ext.size (((2)*(n))+(1)) (by omega) (by first | omega | (simp only[List.length_append];omega))).mono ?_)))))))))))))
  rintro e bw ⟨ci,rfl,er,es⟩
  refine⟨_,rfl,?_⟩
  have hM159:=MK.grew hM150 es er
  have hE:=hM159.ext
  clear hM150
  have hh:bw.heap[c]? =some (.cells ([q]:List Value).toArray 24 (0,0)):=hM159.b3
  have hi:bw.heap[g5]? =some (.cells ([a6]:List Value).toArray 24 (0,0)):=hM159.b5
  have hl:bw.heap[m]? =some (.cells ([NI (fr)]:List Value).toArray 3 (0,0)):=hM159.b7
  refine oM rfl (oS rfl (Yk.callA2 Mw (vr ci rfl) ae ((Dc _ w.heap.size ci (Ci T (fr) (ia) (o)++Lib.uvarint (((2)*(n))+(1))) hM159.own hM159.ext.size (p) (by omega) (by first | omega | (simp only[List.length_append];omega))).mono ?_)))
  rintro e bx ⟨ba,rfl,et,eu⟩
  refine⟨_,rfl,?_⟩
  have hM167:=MK.grew hM159 eu et
  have hE:=hM167.ext
  clear hM159
  have hm:bx.heap[c]? =some (.cells ([q]:List Value).toArray 24 (0,0)):=hM167.b3
  have ht:bx.heap[g5]? =some (.cells ([a6]:List Value).toArray 24 (0,0)):=hM167.b5
  have hu:bx.heap[m]? =some (.cells ([NI (fr)]:List Value).toArray 3 (0,0)):=hM167.b7
  refine oS rfl (Yk.storeC (i:=0) (v:=ba) s (vr ba rfl) hM167.b5 (Nat.le_of_ble_eq_true rfl) HK (Dy hM167.own).1 (Dy hM167.own).2 fun bz ew ex hv=> ?_)
  have hM176:=MK.set5 hM167 ew ex
  have hE:=hM176.ext
  clear hM167
  have hw:bz.heap[c]? =some (.cells ([q]:List Value).toArray 24 (0,0)):=hM176.b3
  have hy:bz.heap[g5]? =some (.cells ([ba]:List Value).toArray 24 (0,0)):=hM176.b5
  have hz:bz.heap[m]? =some (.cells ([NI (fr)]:List Value).toArray 3 (0,0)):=hM176.b7
  refine oZ (tN (eq _ _ (sk fun h0 ey=>(wt (oM rfl (oM rfl (oS rfl (Yk.bin (xv:=NI ia) (yv:=NI n) r ad rfl (Ak _ _ _ (by omega)) (oA rfl (oZ (tN (ey _ _ (wt (oM rfl (oS rfl (Yk.storeC (i:=0) (v:=NI ((ia)+(n))) T7 (vr (NI ((ia)+(n))) rfl) hM176.b7 (Nat.le_of_ble_eq_true rfl) JE rfl rfl fun b0 ez e1 h4=> ?_))))))))))))))))
  have hM185:=MK.set7 (n:=(ia)+(n)) hM176 ez e1
  have hE:=hM185.ext
  clear hM176
  have h8:b0.heap[c]? =some (.cells ([q]:List Value).toArray 24 (0,0)):=hM185.b3
  have h9:b0.heap[g5]? =some (.cells ([ba]:List Value).toArray 24 (0,0)):=hM185.b5
  have ib:b0.heap[m]? =some (.cells ([NI ((ia)+(n))]:List Value).toArray 3 (0,0)):=hM185.b7
  refine AH [(0,vb),(1,q),(3,PQ c 0),(4,(Value.slice none 0 0)),(5,PQ g5 0),(6, .map (some bM)),(7,PQ m 0),(8, .func (.func 54) #[] #[PQ m 0,PQ g5 0,PQ c 0]),(9,NI ((ia)+(n))),(10,NI p),(11,NI n)] ⟨u,y,t,T4,s,T6,T7,z,rfl,ae,ad,trivial⟩ fun e2 ⟨u,y,t,T4,s,T6,T7,z,r,ae,ad,_⟩=>(bN (tN (And.intro ⟨ia+n,ia+n,f',Ci T (fr) (ia) (o)++Lib.uvarint (((2)*(n))+(1))++Lib.uvarint (p),ba,u,y,t,T4,s,T6,T7,z,r,hE,hM185,by rw[Cx,if_pos a3,if_neg (by rw[hbe];exact ap),hbe]at hgo;exact hgo,by omega,by omega,by omega,by have h5:=Ce T fr ia o (by omega);have h6:=A1 (2*n+1) (by omega);have h7:=A1 p (by omega);simp only[List.length_append];omega,trivial⟩ ?_)))
  show T.length-(intOf (e2 9)).toNat<T.length-(intOf (be 9)).toNat
  rw[r,q9]
  simp only[intOf,Int.toNat_natCast];omega
 rw[HM a3]at hgo
 refine AJ (Ag (Ag (Ap (tN (c3 _ _ (sk fun ic e4=>(wt (oM rfl (oS rfl (Yk.cell1 DT rfl t (Ai an (show _=some (q:Value)from rfl)) (oS rfl (Yk.lenRB DT (RB.of (hrt.keep hE) (vr q rfl)) (oS rfl (Yk.clo Gz (caps:= #[PQ m 0,PQ g5 0,PQ c 0]) z #[NI T.length,PQ m 0,PQ g5 0,PQ c 0] (by simp only[List.map_toArray,List.map_cons,List.map_nil,List.append_toArray,List.cons_append,List.nil_append];exact congrArg List.toArray (Lr (vr (NI T.length) rfl) rfl rfl rfl)) ((Gy w au _ (ar.heap.size) c g5 m q v (o) T (fr) (T.length) hM hT (by omega) (by omega) (by omega) (by omega)).mono ?_)))))))))))))))
 rintro e b1 ⟨rfl,bf,hM192⟩
 refine⟨_,rfl,?_⟩
 have hE:=hM192.ext
 clear hM
 have id:b1.heap[c]? =some (.cells ([q]:List Value).toArray 24 (0,0)):=hM192.b3
 have e5:b1.heap[g5]? =some (.cells ([bf]:List Value).toArray 24 (0,0)):=hM192.b5
 have ie:b1.heap[m]? =some (.cells ([NI (fr)]:List Value).toArray 3 (0,0)):=hM192.b7
 refine oZ (tN (e4 _ _ (sk fun ig e6=>(wt (oS rfl (Yk.cell1 DT rfl s (Ai e5 (show _=some (bf:Value)from rfl)) (oA rfl (oZ (tN (e6 _ _ (As (Ao (fn:=Tryd.f25) _ rfl [bf] (bf) rfl ⟨rfl,trivial⟩ ?_))))))))))))
 rw[hgo]at hM192
 exact⟨_,rfl,hM192.ext,CU hM192.own (Nat.le_refl _)⟩
open Go.RowKit
def Du(D:List UInt8):Option (Nat × Nat × Nat):=match Bk 0 (D.drop 0)with
  | none=>none
  | some (a,k)=>match Bk 0 (D.drop (0+k))with
    | none=>none
    | some (b,j)=>some (a,b,0+k+j)
def NP:Option (Nat × Nat × Nat)→Value
  | none=> .tuple #[NI 0,NI 0,NI 0,NI 6]
  | some (a,b,n)=> .tuple #[NI a,NI b,NI n,NI 0]
def El(F:List UInt8)(p s nx:Nat):Option (List UInt8 × Nat):=if s<1∨F.length<p∨F.length-p<s then none else some ((F.drop p).take s,nx)
def Cd(B D:List UInt8)(i:Nat):Option (List UInt8 × Nat):=match Bk 0 (D.drop i)with
  | none=>none
  | some (x,k)=>if x%2=1 then(match Bk 0 (D.drop (i+k))with
    | none=>none
    | some (p,m)=>El B p (x/2) (i+k+m))else El D (i+k) (x/2) (i+k+x/2)
def Cj(B D:List UInt8)(size:Nat):Nat→Nat→List UInt8→Option (List UInt8)
  | 0,_,_=>none
  | f+1,i,o=>if i<D.length then(match Cd B D i with
    | none=>none
    | some (b,nx)=>if size-o.length<b.length then none else Cj B D size f nx (o++b))else if o.length=size then some o else none
def Bd(B D:List UInt8):List UInt8 × Nat:=match Du D with
  | none=>([],6)
  | some (a,b,n)=>if 262144<b then([],2)else if a≠B.length then([],6)else match Cj B D b (D.length+1) n []with
    | none=>([],6)
    | some o=>(o,0)
theorem JK{D:List UInt8}{a b n:Nat}(h:Du D=some (a,b,n)):a<9223372036854775808∧b<9223372036854775808∧n≤D.length:=by
  unfold Du at h
  split at h
  · cases h
  · rename_i x k hk
    have h1:=CC (a:=0) (by omega) hk
    split at h
    · cases h
    · rename_i y j hj
      have h2:=CC (a:=0+k) (by omega) hj
      simp only[Option.some.injEq,Prod.mk.injEq]at h
      obtain⟨rfl,rfl,rfl⟩:=h
      omega
theorem IE{F b:List UInt8}{p s nx n:Nat}(h:El F p s nx=some (b,n)):1≤s∧p≤F.length∧s≤F.length-p∧b=(F.drop p).take s∧n=nx:=by
  unfold El at h
  split at h
  · cases h
  · simp only[Option.some.injEq,Prod.mk.injEq]at h
    exact⟨by omega,by omega,by omega,h.1.symm,h.2.symm⟩
theorem JL{B D b:List UInt8}{i nx:Nat}(hi:i≤D.length)(h:Cd B D i=some (b,nx)):i<nx∧nx≤D.length∧b.length≤B.length+D.length:=by
  unfold Cd at h
  split at h
  · cases h
  · rename_i x k hk
    have h1:=CC hi hk
    split at h
    · split at h
      · cases h
      · rename_i p m hm
        have h2:=CC (a:=i+k) (by omega) hm
        obtain⟨c1,c2,c3,rfl,rfl⟩:=IE h
        rw[List.length_take,List.length_drop]
        omega
    · obtain⟨c1,c2,c3,rfl,rfl⟩:=IE h
      rw[List.length_take,List.length_drop]
      omega
open Go.RowKit
set_option maxRecDepth 100000
theorem CL:A2 Tryd.prog 63:=fun _ _=>by kernel_rfl
theorem IF(w:World)(v:Value)(D:List UInt8)(hr:RB w v D):
  Calls Tryd.prog 88 #[v] w fun e w' =>e = .returned (NP (Du D))∧Ext w w' :=by
 refine AA (args:= [v]) Tryd.func88 rfl 26 rfl (Nat.le_of_ble_eq_true rfl) ?_
 intro g hb
 have c:g 0=(v:Value):=hb.get 0
 clear hb
 have hE:=Ext.refl w
 refine sk fun K1 f=>(wt (oA rfl (oA rfl (oA rfl (oA rfl (oZ ?_))))))
 rcases hgxa:Bk 0 (D.drop (0))with _ | ⟨xa,ka⟩
 ·refine tN (f _ _ (sk fun K2 h=>(wt (oM rfl (oS rfl (Yk.callA2 CL c (vr (NI 0) rfl) ((Jk _ v D (hr.keep hE) (0) (by omega) hgxa).mono ?_)))))))
  rintro e w4 ⟨rfl,i⟩
  refine⟨_,rfl,?_⟩
  have hE:=hE.trans i
  refine oM rfl (oS rfl (Yk.extract (vs:= [NI 0,NI 0,NI 6]) (vr (.tuple #[NI 0,NI 0,NI 6]) rfl) (show _=some (NI 0:Value)from rfl) (oS rfl (Yk.extract (vs:= [NI 0,NI 0,NI 6]) (vr (.tuple #[NI 0,NI 0,NI 6]) rfl) (show _=some (NI 0:Value)from rfl) (oS rfl (Yk.extract (vs:= [NI 0,NI 0,NI 6]) (vr (.tuple #[NI 0,NI 0,NI 6]) rfl) (show _=some (NI 6:Value)from rfl) (oA rfl (oA rfl (oA rfl (oZ (tN (h _ _ (sk fun K5 ai=>(sk fun K6 j=>(wt (oM rfl (oS rfl (Yk.eqI (a:=(6:Nat)) (b:=(0:Nat)) rfl rfl (Dn _ _ _ _) (oZ (tN (j _ _ ?_)))))))))))))))))))))
  refine AE (vr (.bool (true)) (congrArg Value.bool (decide_eq_true (by decide)))) (sk fun K7 k=>(wt (oA rfl (oA rfl (oA rfl (oA rfl (oZ (tN (k _ _ (As (Am (Ao (fn:=Tryd.f88) _ rfl [NI 0,NI 0,NI 0,NI 6] (.tuple #[NI 0,NI 0,NI 0,NI 6]) rfl ⟨rfl,rfl,rfl,rfl,trivial⟩ ?_))))))))))))
  refine⟨?_,hE⟩
  rw[Du,hgxa]
  rfl
 have hqxa:=CC (a:=0) (by omega) hgxa
 rcases hgxb:Bk 0 (D.drop (0+ka))with _ | ⟨xb,kb⟩
 ·refine tN (f _ _ (sk fun K8 l=>(wt (oM rfl (oS rfl (Yk.callA2 CL c (vr (NI 0) rfl) ((Gx _ v D (hr.keep hE) (0) (by omega) xa ka hgxa).mono ?_)))))))
  rintro e am ⟨rfl,m⟩
  refine⟨_,rfl,?_⟩
  have hE:=hE.trans m
  refine oM rfl (oS rfl (Yk.extract (vs:= [NI xa,NI ((0)+ka),NI 0]) (vr (.tuple #[NI xa,NI ((0)+ka),NI 0]) rfl) (show _=some (NI xa:Value)from rfl) (oS rfl (Yk.extract (vs:= [NI xa,NI ((0)+ka),NI 0]) (vr (.tuple #[NI xa,NI ((0)+ka),NI 0]) rfl) (show _=some (NI ((0)+ka):Value)from rfl) (oS rfl (Yk.extract (vs:= [NI xa,NI ((0)+ka),NI 0]) (vr (.tuple #[NI xa,NI ((0)+ka),NI 0]) rfl) (show _=some (NI 0:Value)from rfl) (oA rfl (oA rfl (oA rfl (oZ (tN (l _ _ (sk fun an n=>(sk fun ao o=>(wt (oM rfl (oS rfl (Yk.eqI (a:=(0:Nat)) (b:=(0:Nat)) rfl rfl (Dn _ _ _ _) (oZ (tN (o _ _ ?_)))))))))))))))))))))
  refine Ar (vr (.bool (false)) (congrArg Value.bool (decide_eq_false (by decide)))) (Ah (tN (n _ _ (sk fun ap p=>(wt (oM rfl (oM rfl (oS rfl (Yk.callA2 CL c (vr (NI ((0)+ka)) rfl) ((Jk _ v D (hr.keep hE) ((0)+ka) (by omega) hgxb).mono ?_))))))))))
  rintro e aq ⟨rfl,q⟩
  refine⟨_,rfl,?_⟩
  have hE:=hE.trans q
  refine oM rfl (oS rfl (Yk.extract (vs:= [NI 0,NI 0,NI 6]) (vr (.tuple #[NI 0,NI 0,NI 6]) rfl) (show _=some (NI 0:Value)from rfl) (oS rfl (Yk.extract (vs:= [NI 0,NI 0,NI 6]) (vr (.tuple #[NI 0,NI 0,NI 6]) rfl) (show _=some (NI 0:Value)from rfl) (oS rfl (Yk.extract (vs:= [NI 0,NI 0,NI 6]) (vr (.tuple #[NI 0,NI 0,NI 6]) rfl) (show _=some (NI 6:Value)from rfl) (oA rfl (oA rfl (oA rfl (oZ (tN (p _ _ (sk fun ar au=>(sk fun av r=>(wt (oM rfl (oS rfl (Yk.eqI (a:=(6:Nat)) (b:=(0:Nat)) rfl rfl (Dn _ _ _ _) (oZ (tN (r _ _ ?_)))))))))))))))))))))
  refine AE (vr (.bool (true)) (congrArg Value.bool (decide_eq_true (by decide)))) (sk fun aw s=>(wt (oA rfl (oA rfl (oA rfl (oA rfl (oZ (tN (s _ _ (As (Am (Ao (fn:=Tryd.f88) _ rfl [NI 0,NI 0,NI 0,NI 6] (.tuple #[NI 0,NI 0,NI 0,NI 6]) rfl ⟨rfl,rfl,rfl,rfl,trivial⟩ ?_))))))))))))
  refine⟨?_,hE⟩
  rw[Du,hgxa];simp only;rw[hgxb]
  rfl
 have hqxb:=CC (a:=0+ka) (by omega) hgxb
 refine tN (f _ _ (sk fun ax t=>(wt (oM rfl (oS rfl (Yk.callA2 CL c (vr (NI 0) rfl) ((Gx _ v D (hr.keep hE) (0) (by omega) xa ka hgxa).mono ?_)))))))
 rintro e ay ⟨rfl,u⟩
 refine⟨_,rfl,?_⟩
 have hE:=hE.trans u
 refine oM rfl (oS rfl (Yk.extract (vs:= [NI xa,NI ((0)+ka),NI 0]) (vr (.tuple #[NI xa,NI ((0)+ka),NI 0]) rfl) (show _=some (NI xa:Value)from rfl) (oS rfl (Yk.extract (vs:= [NI xa,NI ((0)+ka),NI 0]) (vr (.tuple #[NI xa,NI ((0)+ka),NI 0]) rfl) (show _=some (NI ((0)+ka):Value)from rfl) (oS rfl (Yk.extract (vs:= [NI xa,NI ((0)+ka),NI 0]) (vr (.tuple #[NI xa,NI ((0)+ka),NI 0]) rfl) (show _=some (NI 0:Value)from rfl) (oA rfl (oA rfl (oA rfl (oZ (tN (t _ _ (sk fun az x=>(sk fun a0 y=>(wt (oM rfl (oS rfl (Yk.eqI (a:=(0:Nat)) (b:=(0:Nat)) rfl rfl (Dn _ _ _ _) (oZ (tN (y _ _ ?_)))))))))))))))))))))
 refine Ar (vr (.bool (false)) (congrArg Value.bool (decide_eq_false (by decide)))) (Ah (tN (x _ _ (sk fun a1 z=>(wt (oM rfl (oM rfl (oS rfl (Yk.callA2 CL c (vr (NI ((0)+ka)) rfl) ((Gx _ v D (hr.keep hE) ((0)+ka) (by omega) xb kb hgxb).mono ?_))))))))))
 rintro e a2 ⟨rfl,aa⟩
 refine⟨_,rfl,?_⟩
 have hE:=hE.trans aa
 refine oM rfl (oS rfl (Yk.extract (vs:= [NI xb,NI (((0)+ka)+kb),NI 0]) (vr (.tuple #[NI xb,NI (((0)+ka)+kb),NI 0]) rfl) (show _=some (NI xb:Value)from rfl) (oS rfl (Yk.extract (vs:= [NI xb,NI (((0)+ka)+kb),NI 0]) (vr (.tuple #[NI xb,NI (((0)+ka)+kb),NI 0]) rfl) (show _=some (NI (((0)+ka)+kb):Value)from rfl) (oS rfl (Yk.extract (vs:= [NI xb,NI (((0)+ka)+kb),NI 0]) (vr (.tuple #[NI xb,NI (((0)+ka)+kb),NI 0]) rfl) (show _=some (NI 0:Value)from rfl) (oA rfl (oA rfl (oA rfl (oZ (tN (z _ _ (sk fun a3 ab=>(sk fun a4 ac=>(wt (oM rfl (oS rfl (Yk.eqI (a:=(0:Nat)) (b:=(0:Nat)) rfl rfl (Dn _ _ _ _) (oZ (tN (ac _ _ ?_)))))))))))))))))))))
 refine Ar (vr (.bool (false)) (congrArg Value.bool (decide_eq_false (by decide)))) (Ah (tN (ab _ _ (sk fun a5 ad=>(wt (oM rfl (oM rfl (oM rfl (oA rfl (oA rfl (oA rfl (oA rfl (oZ (tN (ad _ _ (As (Ao (fn:=Tryd.f88) _ rfl [NI xa,NI xb,NI (((0)+ka)+kb),NI 0] (.tuple #[NI xa,NI xb,NI (((0)+ka)+kb),NI 0]) rfl ⟨rfl,rfl,rfl,rfl,trivial⟩ ?_)))))))))))))))))
 refine⟨?_,hE⟩
 rw[Du,hgxa];simp only;rw[hgxb]
 rfl

theorem NQ(w:World)(v:Value)(D:List UInt8)(hr:RB w v D)(h:Du D=none):
  Calls Tryd.prog 88 #[v] w fun e w' =>e = .returned (.tuple #[NI 0,NI 0,NI 0,NI 6])∧Ext w w' :=by
 have:=IF w v D hr
 rw[h]at this
 exact this
theorem MA(w:World)(v:Value)(D:List UInt8)(hr:RB w v D)(a b n:Nat)(h:Du D=some (a,b,n)):
  Calls Tryd.prog 88 #[v] w fun e w' =>e = .returned (.tuple #[NI a,NI b,NI n,NI 0])∧Ext w w' :=by
 have:=IF w v D hr
 rw[h]at this
 exact this

theorem IG(w:World)(vb v:Value)(B D:List UInt8)(hrb:RB w vb B)(hr:RB w v D)(i:Nat)(hi:i≤D.length)(hB:B.length≤1048576)(hD:D.length≤4611686018427387904):
  Calls Tryd.prog 89 #[vb,v,NI i] w fun e w' =>(match Cd B D i with | none=>e = .returned (.tuple #[.slice none 0 0,NI 0, .bool false]) | some (b,nx)=>∃v',e = .returned (.tuple #[v',NI nx, .bool true])∧RB w' v' b)∧Ext w w' :=by
 refine AA (args:= [vb,v,NI i]) Tryd.func89 rfl 70 rfl (Nat.le_of_ble_eq_true rfl) ?_
 intro ag hb
 have g:ag 0=(vb:Value):=hb.get 0
 have f:ag 1=(v:Value):=hb.get 1
 have h:ag 2=(NI i:Value):=hb.get 2
 clear hb
 have hE:=Ext.refl w
 refine sk fun K1 ah=>(wt (oA rfl (oA rfl (oA rfl (oZ ?_)))))
 rcases hgx:Bk 0 (D.drop (i))with _ | ⟨x,k⟩
 ·refine tN (ah _ _ (sk fun K2 ak=>(wt (oM rfl (oM rfl (oS rfl (Yk.callA2 CL f h ((Jk _ v D (hr.keep hE) (i) (by omega) hgx).mono ?_))))))))
  rintro e w4 ⟨rfl,al⟩
  refine⟨_,rfl,?_⟩
  have hE:=hE.trans al
  refine oM rfl (oS rfl (Yk.extract (vs:= [NI 0,NI 0,NI 6]) (vr (.tuple #[NI 0,NI 0,NI 6]) rfl) (show _=some (NI 0:Value)from rfl) (oS rfl (Yk.extract (vs:= [NI 0,NI 0,NI 6]) (vr (.tuple #[NI 0,NI 0,NI 6]) rfl) (show _=some (NI 0:Value)from rfl) (oS rfl (Yk.extract (vs:= [NI 0,NI 0,NI 6]) (vr (.tuple #[NI 0,NI 0,NI 6]) rfl) (show _=some (NI 6:Value)from rfl) (oA rfl (oA rfl (oA rfl (oZ (tN (ak _ _ (sk fun K5 bz=>(sk fun K6 am=>(wt (oM rfl (oS rfl (Yk.eqI (a:=(6:Nat)) (b:=(0:Nat)) rfl rfl (Dn _ _ _ _) (oZ (tN (am _ _ ?_)))))))))))))))))))))
  refine AE (vr (.bool (true)) (congrArg Value.bool (decide_eq_true (by decide)))) (sk fun K7 an=>(wt (oA rfl (oA rfl (oA rfl (oZ (tN (an _ _ (As (Am (Ao (fn:=Tryd.f89) _ rfl [(Value.slice none 0 0),NI 0, .bool (false)] (.tuple #[(Value.slice none 0 0),NI 0, .bool (false)]) rfl ⟨rfl,rfl,rfl,trivial⟩ ?_)))))))))))
  rw[Cd,hgx]
  exact⟨rfl,hE⟩
 have hqx:=CC (a:=i) (by omega) hgx
 refine tN (ah _ _ (sk fun K8 ao=>(wt (oM rfl (oM rfl (oS rfl (Yk.callA2 CL f h ((Gx _ v D (hr.keep hE) (i) (by omega) x k hgx).mono ?_))))))))
 rintro e b3 ⟨rfl,ap⟩
 refine⟨_,rfl,?_⟩
 have hE:=hE.trans ap
 refine oM rfl (oS rfl (Yk.extract (vs:= [NI x,NI ((i)+k),NI 0]) (vr (.tuple #[NI x,NI ((i)+k),NI 0]) rfl) (show _=some (NI x:Value)from rfl) (oS rfl (Yk.extract (vs:= [NI x,NI ((i)+k),NI 0]) (vr (.tuple #[NI x,NI ((i)+k),NI 0]) rfl) (show _=some (NI ((i)+k):Value)from rfl) (oS rfl (Yk.extract (vs:= [NI x,NI ((i)+k),NI 0]) (vr (.tuple #[NI x,NI ((i)+k),NI 0]) rfl) (show _=some (NI 0:Value)from rfl) (oA rfl (oA rfl (oA rfl (oZ (tN (ao _ _ (sk fun b4 aq=>(sk fun b5 ar=>(wt (oM rfl (oS rfl (Yk.eqI (a:=(0:Nat)) (b:=(0:Nat)) rfl rfl (Dn _ _ _ _) (oZ (tN (ar _ _ ?_)))))))))))))))))))))
 refine Ar (vr (.bool (false)) (congrArg Value.bool (decide_eq_false (by decide)))) (Ah (tN (aq _ _ (sk fun b6 au=>(wt (oM rfl (oS rfl (Yk.bin (xv:=NI x) (yv:=NI 2) rfl rfl rfl (EU _ _ _ (by omega) (by omega)) (oM rfl (oA rfl (oA rfl (oZ (tN (au _ _ (sk fun b7 av=>(wt (oM rfl (oA rfl ?_))))))))))))))))))
 refine oZ (tN (av _ _ (sk fun b8 aa=>(sk fun b9 aw=>(wt (oM rfl (oS rfl (Yk.bin (xv:=NI x) (yv:=NI 2) rfl rfl rfl (FH _ _ _ (by omega)) (oS rfl (Yk.eqI (a:=((x)%(2):Nat)) (b:=(1:Nat)) rfl rfl (Br _ _ _ _) (oZ (tN (aw _ _ ?_)))))))))))))
 refine AO (((x)%(2):Nat)=(1)) (vr (.bool (decide (((x)%(2):Nat)=(1)))) rfl) (fun hodd=> ?_) (fun hodd=> ?_)
 ·rcases hgp:Bk 0 (D.drop (i+k))with _ | ⟨p,m⟩
  ·refine sk fun ca cb=>(sk fun cc ax=>(wt (oM rfl (oM rfl (oS rfl (Yk.callA2 CL f (vr (NI ((i)+k)) rfl) ((Jk _ v D (hr.keep hE) ((i)+k) (by omega) hgp).mono ?_)))))))
   rintro e cd ⟨rfl,ay⟩
   refine⟨_,rfl,?_⟩
   have hE:=hE.trans ay
   refine oM rfl (oS rfl (Yk.extract (vs:= [NI 0,NI 0,NI 6]) (vr (.tuple #[NI 0,NI 0,NI 6]) rfl) (show _=some (NI 0:Value)from rfl) (oS rfl (Yk.extract (vs:= [NI 0,NI 0,NI 6]) (vr (.tuple #[NI 0,NI 0,NI 6]) rfl) (show _=some (NI 0:Value)from rfl) (oS rfl (Yk.extract (vs:= [NI 0,NI 0,NI 6]) (vr (.tuple #[NI 0,NI 0,NI 6]) rfl) (show _=some (NI 6:Value)from rfl) (oA rfl (oA rfl (oA rfl (oZ (tN (ax _ _ (sk fun ce az=>(wt (oM rfl (oS rfl (Yk.eqI (a:=(6:Nat)) (b:=(0:Nat)) rfl rfl (Dn _ _ _ _) (oZ (tN (az _ _ (AE (vr (.bool (true)) (congrArg Value.bool (decide_eq_true (by decide)))) ?_)))))))))))))))))))))
   refine sk fun cf a0=>(wt (oA rfl (oA rfl (oA rfl (AH [(0,vb),(1,v),(2,NI i),(6,(Value.slice none 0 0)),(7,NI 0),(8, .bool (false)),(9,NI x),(10,NI 0),(11,NI 6),(12,NI ((x)/(2))),(13,v),(14,NI 0),(23, .bool (false)),(39, .bool (true))] ⟨g,f,h,rfl,rfl,rfl,rfl,rfl,rfl,rfl,f,rfl,(congrArg Value.bool (decide_eq_false (by decide))),(congrArg Value.bool (decide_eq_true (by decide))),trivial⟩ fun cg ⟨g,f,h,u,y,z,r,s,ab,q,t,o,ac,af,_⟩=>(tN (a0 _ _ (As (Am (Am (Ao (fn:=Tryd.f89) _ rfl [(Value.slice none 0 0),NI 0, .bool (false)] (.tuple #[(Value.slice none 0 0),NI 0, .bool (false)]) rfl ⟨u,y,z,trivial⟩ ?_)))))))))))
   rw[Cd,hgx];simp only
   rw[if_pos hodd,hgp]
   refine⟨?_,hE⟩
   first | rfl | trivial
  have hqp:=CC (a:=i+k) (by omega) hgp
  refine sk fun ch a1=>(sk fun ci a2=>(wt (oM rfl (oM rfl (oS rfl (Yk.callA2 CL f (vr (NI ((i)+k)) rfl) ((Gx _ v D (hr.keep hE) ((i)+k) (by omega) p m hgp).mono ?_)))))))
  rintro e cj ⟨rfl,a3⟩
  refine⟨_,rfl,?_⟩
  have hE:=hE.trans a3
  refine oM rfl (oS rfl (Yk.extract (vs:= [NI p,NI (((i)+k)+m),NI 0]) (vr (.tuple #[NI p,NI (((i)+k)+m),NI 0]) rfl) (show _=some (NI p:Value)from rfl) (oS rfl (Yk.extract (vs:= [NI p,NI (((i)+k)+m),NI 0]) (vr (.tuple #[NI p,NI (((i)+k)+m),NI 0]) rfl) (show _=some (NI (((i)+k)+m):Value)from rfl) (oS rfl (Yk.extract (vs:= [NI p,NI (((i)+k)+m),NI 0]) (vr (.tuple #[NI p,NI (((i)+k)+m),NI 0]) rfl) (show _=some (NI 0:Value)from rfl) (oA rfl (oA rfl (oA rfl (oZ (tN (a2 _ _ (sk fun ck a4=>(wt (oM rfl (oS rfl (Yk.eqI (a:=(0:Nat)) (b:=(0:Nat)) rfl rfl (Dn _ _ _ _) (oZ (tN (a4 _ _ (Ar (vr (.bool (false)) (congrArg Value.bool (decide_eq_false (by decide)))) ?_)))))))))))))))))))))
  refine Ah (tN (a1 _ _ (wt (oM rfl (oA rfl (oZ ?_))))))
  by_cases c:x/2<1
  ·refine tN (aa _ _ (sk fun cl cm=>(sk fun cn a5=>(wt (oM rfl (oS rfl (Yk.eqI (a:=((x)/(2):Nat)) (b:=(1:Nat)) rfl rfl (AN _ _ _ _) (oM rfl (oN (d:=43) rfl rfl rfl (vr (.bool (true)) (congrArg Value.bool (decide_eq_true (c)))) rfl (oN (d:=43) rfl rfl rfl (vr (.bool (true)) (congrArg Value.bool (decide_eq_true (c)))) rfl (oN (d:=43) rfl rfl rfl (vr (.bool (true)) (congrArg Value.bool (decide_eq_true (c)))) rfl (oN (d:=43) rfl rfl rfl (vr (.bool (true)) (congrArg Value.bool (decide_eq_true (c)))) rfl (oS rfl (Yk.pickT (vr (.bool (true)) (congrArg Value.bool (decide_eq_true (c)))) (vr (.bool (true)) rfl) (oM rfl (oN (d:=49) rfl rfl rfl (vr (.bool (true)) rfl) rfl (oN (d:=49) rfl rfl rfl (vr (.bool (true)) rfl) rfl (oN (d:=49) rfl rfl rfl (vr (.bool (true)) rfl) rfl ?_))))))))))))))))))
   refine oN (d:=49) rfl rfl rfl (vr (.bool (true)) rfl) rfl (oN (d:=49) rfl rfl rfl (vr (.bool (true)) rfl) rfl (oN (d:=49) rfl rfl rfl (vr (.bool (true)) rfl) rfl (oS rfl (Yk.pickT (vr (.bool (true)) rfl) (vr (.bool (true)) rfl) (AH [(0,vb),(1,v),(2,NI i),(6,(Value.slice none 0 0)),(7,NI 0),(8, .bool (false)),(9,NI x),(10,NI (((i)+k)+m)),(11,NI 0),(12,NI ((x)/(2))),(13,vb),(14,NI p),(23, .bool (false)),(39, .bool (false)),(56, .bool (true))] ⟨g,f,h,rfl,rfl,rfl,rfl,rfl,rfl,rfl,g,rfl,(congrArg Value.bool (decide_eq_false (by decide))),(congrArg Value.bool (decide_eq_false (by decide))),rfl,trivial⟩ fun co ⟨g,f,h,u,y,z,r,s,ab,q,t,o,ac,af,j,_⟩=>(tN (a5 _ _ (AE j (sk fun cp a6=>(wt (oA rfl (oA rfl (oA rfl (oZ (tN (a6 _ _ (As (Am (Ao (fn:=Tryd.f89) _ rfl [(Value.slice none 0 0),NI 0, .bool (false)] (.tuple #[(Value.slice none 0 0),NI 0, .bool (false)]) rfl ⟨rfl,rfl,rfl,trivial⟩ ?_)))))))))))))))))))
   rw[Cd,hgx];simp only
   rw[if_pos hodd,hgp];simp only
   rw[El,if_pos (by omega)]
   refine⟨?_,hE⟩
   first | rfl | trivial
  by_cases ad:B.length<p
  ·refine tN (aa _ _ (sk fun cq cr=>(sk fun cs a7=>(wt (oM rfl (oS rfl (Yk.eqI (a:=((x)/(2):Nat)) (b:=(1:Nat)) rfl rfl (AN _ _ _ _) (oM rfl (oY (d:=43) rfl rfl (vr (.bool (false)) (congrArg Value.bool (decide_eq_false (c)))) (Yk.move (vr (NI p) rfl) (oY (d:=43) rfl rfl (vr (.bool (false)) (congrArg Value.bool (decide_eq_false (c)))) (Yk.move g (oY (d:=43) rfl rfl (vr (.bool (false)) (congrArg Value.bool (decide_eq_false (c)))) (Yk.lenRB DT (RB.of (hrb.keep hE) (vr vb rfl)) (oY (d:=43) rfl rfl (vr (.bool (false)) (congrArg Value.bool (decide_eq_false (c)))) (Yk.eqI (a:=(p:Nat)) (b:=(B.length:Nat)) rfl rfl (Bm _ _ _ _) (oS rfl (Yk.pickF (vr (.bool (false)) (congrArg Value.bool (decide_eq_false (c)))) (vr (.bool (true)) (congrArg Value.bool (decide_eq_true (ad)))) (oM rfl (oN (d:=49) rfl rfl rfl (vr (.bool (true)) rfl) rfl (oN (d:=49) rfl rfl rfl (vr (.bool (true)) rfl) rfl (oN (d:=49) rfl rfl rfl (vr (.bool (true)) rfl) rfl ?_))))))))))))))))))))))
   refine oN (d:=49) rfl rfl rfl (vr (.bool (true)) rfl) rfl (oN (d:=49) rfl rfl rfl (vr (.bool (true)) rfl) rfl (oN (d:=49) rfl rfl rfl (vr (.bool (true)) rfl) rfl (oS rfl (Yk.pickT (vr (.bool (true)) rfl) (vr (.bool (true)) rfl) (AH [(0,vb),(1,v),(2,NI i),(6,(Value.slice none 0 0)),(7,NI 0),(8, .bool (false)),(9,NI x),(10,NI (((i)+k)+m)),(11,NI 0),(12,NI ((x)/(2))),(13,vb),(14,NI p),(23, .bool (false)),(39, .bool (false)),(56, .bool (true))] ⟨g,f,h,rfl,rfl,rfl,rfl,rfl,rfl,rfl,g,rfl,(congrArg Value.bool (decide_eq_false (by decide))),(congrArg Value.bool (decide_eq_false (by decide))),rfl,trivial⟩ fun ct ⟨g,f,h,u,y,z,r,s,ab,q,t,o,ac,af,j,_⟩=>(tN (a7 _ _ (AE j (sk fun cu a8=>(wt (oA rfl (oA rfl (oA rfl (oZ (tN (a8 _ _ (As (Am (Ao (fn:=Tryd.f89) _ rfl [(Value.slice none 0 0),NI 0, .bool (false)] (.tuple #[(Value.slice none 0 0),NI 0, .bool (false)]) rfl ⟨rfl,rfl,rfl,trivial⟩ ?_)))))))))))))))))))
   rw[Cd,hgx];simp only
   rw[if_pos hodd,hgp];simp only
   rw[El,if_pos (by omega)]
   refine⟨?_,hE⟩
   first | rfl | trivial
  by_cases ae:B.length-(p)<x/2
  ·refine tN (aa _ _ (sk fun cv cw=>(sk fun cx a9=>(wt (oM rfl (oS rfl (Yk.eqI (a:=((x)/(2):Nat)) (b:=(1:Nat)) rfl rfl (AN _ _ _ _) (oM rfl (oY (d:=43) rfl rfl (vr (.bool (false)) (congrArg Value.bool (decide_eq_false (c)))) (Yk.move (vr (NI p) rfl) (oY (d:=43) rfl rfl (vr (.bool (false)) (congrArg Value.bool (decide_eq_false (c)))) (Yk.move g (oY (d:=43) rfl rfl (vr (.bool (false)) (congrArg Value.bool (decide_eq_false (c)))) (Yk.lenRB DT (RB.of (hrb.keep hE) (vr vb rfl)) (oY (d:=43) rfl rfl (vr (.bool (false)) (congrArg Value.bool (decide_eq_false (c)))) (Yk.eqI (a:=(p:Nat)) (b:=(B.length:Nat)) rfl rfl (Bm _ _ _ _) (oS rfl (Yk.pickF (vr (.bool (false)) (congrArg Value.bool (decide_eq_false (c)))) (vr (.bool (false)) (congrArg Value.bool (decide_eq_false (ad)))) (oM rfl (oY (d:=49) rfl rfl (vr (.bool (false)) rfl) (Yk.move (vr (NI ((x)/(2))) rfl) (oY (d:=49) rfl rfl (vr (.bool (false)) rfl) (Yk.move g (oY (d:=49) rfl rfl (vr (.bool (false)) rfl) (Yk.lenRB DT (RB.of (hrb.keep hE) (vr vb rfl)) ?_)))))))))))))))))))))))))
   refine oY (d:=49) rfl rfl (vr (.bool (false)) rfl) (Yk.move (vr (NI p) rfl) (oY (d:=49) rfl rfl (vr (.bool (false)) rfl) (Yk.bin (xv:=NI B.length) (yv:=NI p) rfl rfl rfl (Bj _ _ _ (by omega) (by omega)) (oY (d:=49) rfl rfl (vr (.bool (false)) rfl) (Yk.eqI (a:=((x)/(2):Nat)) (b:=((B.length)-(p):Nat)) rfl rfl (Bm _ _ _ _) (oS rfl (Yk.pickF (vr (.bool (false)) rfl) (vr (.bool (true)) (congrArg Value.bool (decide_eq_true (ae)))) (AH [(0,vb),(1,v),(2,NI i),(6,(Value.slice none 0 0)),(7,NI 0),(8, .bool (false)),(9,NI x),(10,NI (((i)+k)+m)),(11,NI 0),(12,NI ((x)/(2))),(13,vb),(14,NI p),(23, .bool (false)),(39, .bool (false)),(56, .bool (true))] ⟨g,f,h,rfl,rfl,rfl,rfl,rfl,rfl,rfl,g,rfl,(congrArg Value.bool (decide_eq_false (by decide))),(congrArg Value.bool (decide_eq_false (by decide))),rfl,trivial⟩ fun cy ⟨g,f,h,u,y,z,r,s,ab,q,t,o,ac,af,j,_⟩=>(tN (a9 _ _ (AE j (sk fun cz ba=>(wt (oA rfl (oA rfl (oA rfl (oZ (tN (ba _ _ (As (Am (Ao (fn:=Tryd.f89) _ rfl [(Value.slice none 0 0),NI 0, .bool (false)] (.tuple #[(Value.slice none 0 0),NI 0, .bool (false)]) rfl ⟨rfl,rfl,rfl,trivial⟩ ?_))))))))))))))))))))))
   rw[Cd,hgx];simp only
   rw[if_pos hodd,hgp];simp only
   rw[El,if_pos (by omega)]
   refine⟨?_,hE⟩
   first | rfl | trivial
  refine tN (aa _ _ (sk fun c0 bb=>(sk fun c1 bc=>(wt (oM rfl (oS rfl (Yk.eqI (a:=((x)/(2):Nat)) (b:=(1:Nat)) rfl rfl (AN _ _ _ _) (oM rfl (oY (d:=43) rfl rfl (vr (.bool (false)) (congrArg Value.bool (decide_eq_false (c)))) (Yk.move (vr (NI p) rfl) (oY (d:=43) rfl rfl (vr (.bool (false)) (congrArg Value.bool (decide_eq_false (c)))) (Yk.move g (oY (d:=43) rfl rfl (vr (.bool (false)) (congrArg Value.bool (decide_eq_false (c)))) (Yk.lenRB DT (RB.of (hrb.keep hE) (vr vb rfl)) (oY (d:=43) rfl rfl (vr (.bool (false)) (congrArg Value.bool (decide_eq_false (c)))) (Yk.eqI (a:=(p:Nat)) (b:=(B.length:Nat)) rfl rfl (Bm _ _ _ _) (oS rfl (Yk.pickF (vr (.bool (false)) (congrArg Value.bool (decide_eq_false (c)))) (vr (.bool (false)) (congrArg Value.bool (decide_eq_false (ad)))) (oM rfl (oY (d:=49) rfl rfl (vr (.bool (false)) rfl) (Yk.move (vr (NI ((x)/(2))) rfl) (oY (d:=49) rfl rfl (vr (.bool (false)) rfl) (Yk.move g (oY (d:=49) rfl rfl (vr (.bool (false)) rfl) (Yk.lenRB DT (RB.of (hrb.keep hE) (vr vb rfl)) ?_)))))))))))))))))))))))))
  refine oY (d:=49) rfl rfl (vr (.bool (false)) rfl) (Yk.move (vr (NI p) rfl) (oY (d:=49) rfl rfl (vr (.bool (false)) rfl) (Yk.bin (xv:=NI B.length) (yv:=NI p) rfl rfl rfl (Bj _ _ _ (by omega) (by omega)) (oY (d:=49) rfl rfl (vr (.bool (false)) rfl) (Yk.eqI (a:=((x)/(2):Nat)) (b:=((B.length)-(p):Nat)) rfl rfl (Bm _ _ _ _) (oS rfl (Yk.pickF (vr (.bool (false)) rfl) (vr (.bool (false)) (congrArg Value.bool (decide_eq_false (ae)))) (AH [(0,vb),(1,v),(2,NI i),(6,(Value.slice none 0 0)),(7,NI 0),(8, .bool (false)),(9,NI x),(10,NI (((i)+k)+m)),(11,NI 0),(12,NI ((x)/(2))),(13,vb),(14,NI p),(23, .bool (false)),(39, .bool (false)),(56, .bool (false))] ⟨g,f,h,rfl,rfl,rfl,rfl,rfl,rfl,rfl,g,rfl,(congrArg Value.bool (decide_eq_false (by decide))),(congrArg Value.bool (decide_eq_false (by decide))),rfl,trivial⟩ fun c2 ⟨g,f,h,u,y,z,r,s,ab,q,t,o,ac,af,j,_⟩=>(tN (bc _ _ (Ar j (Ah (tN (bb _ _ (sk fun c3 bd=>(sk fun c4 be=>(wt (oM rfl (oS rfl (Yk.bin (xv:=NI x) (yv:=NI 2) r rfl rfl (FH _ _ _ (by omega)) (oS rfl (Yk.eqI (a:=((x)%(2):Nat)) (b:=(0:Nat)) rfl rfl (Br _ _ _ _) (oZ ?_)))))))))))))))))))))))
  refine tN (be _ _ (Ar (vr (.bool (false)) (congrArg Value.bool (decide_eq_false (by omega)))) (Ah (tN (bd _ _ (sk fun c5 bf=>(wt (oM rfl (oM rfl (oM rfl (oM rfl (oS rfl (Yk.bin (xv:=NI p) (yv:=NI ((x)/(2))) o q rfl (Ak _ _ _ (by omega)) (oS rfl (Yk.sliceLH (xs:=B) (l:=p) (n:=(p)+((x)/(2))) DT Ls t (hrb.keep hE) o (vr (NI ((p)+((x)/(2)))) rfl) (by omega) (by omega) fun ai bg ha49=>(oM rfl (oA rfl (oA rfl (oA rfl ?_)))))))))))))))))))
  refine oZ (tN (bf _ _ (As (Ao (fn:=Tryd.f89) _ rfl [ai,NI (((i)+k)+m), .bool (true)] (.tuple #[ai,NI (((i)+k)+m), .bool (true)]) rfl ⟨rfl,s,rfl,trivial⟩ ?_))))
  rw[Cd,hgx];simp only
  rw[if_pos hodd,hgp];simp only
  rw[El,if_neg (by omega)]
  refine⟨⟨_,rfl,?_⟩,hE⟩
  simpa only[Nat.add_sub_cancel_left] using bg
 by_cases c:x/2<1
 ·refine Ah (tN (aa _ _ (sk fun c6 c7=>(sk fun c8 bh=>(wt (oM rfl (oS rfl (Yk.eqI (a:=((x)/(2):Nat)) (b:=(1:Nat)) rfl rfl (AN _ _ _ _) (oM rfl (oN (d:=43) rfl rfl rfl (vr (.bool (true)) (congrArg Value.bool (decide_eq_true (c)))) rfl (oN (d:=43) rfl rfl rfl (vr (.bool (true)) (congrArg Value.bool (decide_eq_true (c)))) rfl (oN (d:=43) rfl rfl rfl (vr (.bool (true)) (congrArg Value.bool (decide_eq_true (c)))) rfl (oN (d:=43) rfl rfl rfl (vr (.bool (true)) (congrArg Value.bool (decide_eq_true (c)))) rfl (oS rfl (Yk.pickT (vr (.bool (true)) (congrArg Value.bool (decide_eq_true (c)))) (vr (.bool (true)) rfl) (oM rfl (oN (d:=49) rfl rfl rfl (vr (.bool (true)) rfl) rfl (oN (d:=49) rfl rfl rfl (vr (.bool (true)) rfl) rfl ?_))))))))))))))))))
  refine oN (d:=49) rfl rfl rfl (vr (.bool (true)) rfl) rfl (oN (d:=49) rfl rfl rfl (vr (.bool (true)) rfl) rfl (oN (d:=49) rfl rfl rfl (vr (.bool (true)) rfl) rfl (oN (d:=49) rfl rfl rfl (vr (.bool (true)) rfl) rfl (oS rfl (Yk.pickT (vr (.bool (true)) rfl) (vr (.bool (true)) rfl) (AH [(0,vb),(1,v),(2,NI i),(6,(Value.slice none 0 0)),(7,NI 0),(8, .bool (false)),(9,NI x),(10,NI ((i)+k)),(11,NI 0),(12,NI ((x)/(2))),(13,v),(14,NI ((i)+k)),(23, .bool (false)),(56, .bool (true))] ⟨g,f,h,rfl,rfl,rfl,rfl,rfl,rfl,rfl,f,rfl,(congrArg Value.bool (decide_eq_false (by decide))),rfl,trivial⟩ fun c9 ⟨g,f,h,u,y,z,r,s,ab,q,t,o,ac,j,_⟩=>(tN (bh _ _ (AE j (sk fun da bi=>(wt (oA rfl (oA rfl (oA rfl (oZ (tN (bi _ _ (As (Am ?_)))))))))))))))))))
  refine Ao (fn:=Tryd.f89) _ rfl [(Value.slice none 0 0),NI 0, .bool (false)] (.tuple #[(Value.slice none 0 0),NI 0, .bool (false)]) rfl ⟨rfl,rfl,rfl,trivial⟩ ?_
  rw[Cd,hgx];simp only
  rw[if_neg hodd]
  rw[El,if_pos (by omega)]
  refine⟨?_,hE⟩
  first | rfl | trivial
 by_cases ad:D.length<i+k
 ·refine Ah (tN (aa _ _ (sk fun db dc=>(sk fun dd bj=>(wt (oM rfl (oS rfl (Yk.eqI (a:=((x)/(2):Nat)) (b:=(1:Nat)) rfl rfl (AN _ _ _ _) (oM rfl (oY (d:=43) rfl rfl (vr (.bool (false)) (congrArg Value.bool (decide_eq_false (c)))) (Yk.move (vr (NI ((i)+k)) rfl) (oY (d:=43) rfl rfl (vr (.bool (false)) (congrArg Value.bool (decide_eq_false (c)))) (Yk.move f (oY (d:=43) rfl rfl (vr (.bool (false)) (congrArg Value.bool (decide_eq_false (c)))) (Yk.lenRB DT (RB.of (hr.keep hE) (vr v rfl)) (oY (d:=43) rfl rfl (vr (.bool (false)) (congrArg Value.bool (decide_eq_false (c)))) (Yk.eqI (a:=((i)+k:Nat)) (b:=(D.length:Nat)) rfl rfl (Bm _ _ _ _) (oS rfl (Yk.pickF (vr (.bool (false)) (congrArg Value.bool (decide_eq_false (c)))) (vr (.bool (true)) (congrArg Value.bool (decide_eq_true (ad)))) (oM rfl (oN (d:=49) rfl rfl rfl (vr (.bool (true)) rfl) rfl (oN (d:=49) rfl rfl rfl (vr (.bool (true)) rfl) rfl ?_))))))))))))))))))))))
  refine oN (d:=49) rfl rfl rfl (vr (.bool (true)) rfl) rfl (oN (d:=49) rfl rfl rfl (vr (.bool (true)) rfl) rfl (oN (d:=49) rfl rfl rfl (vr (.bool (true)) rfl) rfl (oN (d:=49) rfl rfl rfl (vr (.bool (true)) rfl) rfl (oS rfl (Yk.pickT (vr (.bool (true)) rfl) (vr (.bool (true)) rfl) (AH [(0,vb),(1,v),(2,NI i),(6,(Value.slice none 0 0)),(7,NI 0),(8, .bool (false)),(9,NI x),(10,NI ((i)+k)),(11,NI 0),(12,NI ((x)/(2))),(13,v),(14,NI ((i)+k)),(23, .bool (false)),(56, .bool (true))] ⟨g,f,h,rfl,rfl,rfl,rfl,rfl,rfl,rfl,f,rfl,(congrArg Value.bool (decide_eq_false (by decide))),rfl,trivial⟩ fun de ⟨g,f,h,u,y,z,r,s,ab,q,t,o,ac,j,_⟩=>(tN (bj _ _ (AE j (sk fun df bk=>(wt (oA rfl (oA rfl (oA rfl (oZ (tN (bk _ _ (As (Am ?_)))))))))))))))))))
  refine Ao (fn:=Tryd.f89) _ rfl [(Value.slice none 0 0),NI 0, .bool (false)] (.tuple #[(Value.slice none 0 0),NI 0, .bool (false)]) rfl ⟨rfl,rfl,rfl,trivial⟩ ?_
  rw[Cd,hgx];simp only
  rw[if_neg hodd]
  rw[El,if_pos (by omega)]
  refine⟨?_,hE⟩
  first | rfl | trivial
 by_cases ae:D.length-(i+k)<x/2
 ·refine Ah (tN (aa _ _ (sk fun dg dh=>(sk fun di bm=>(wt (oM rfl (oS rfl (Yk.eqI (a:=((x)/(2):Nat)) (b:=(1:Nat)) rfl rfl (AN _ _ _ _) (oM rfl (oY (d:=43) rfl rfl (vr (.bool (false)) (congrArg Value.bool (decide_eq_false (c)))) (Yk.move (vr (NI ((i)+k)) rfl) (oY (d:=43) rfl rfl (vr (.bool (false)) (congrArg Value.bool (decide_eq_false (c)))) (Yk.move f (oY (d:=43) rfl rfl (vr (.bool (false)) (congrArg Value.bool (decide_eq_false (c)))) (Yk.lenRB DT (RB.of (hr.keep hE) (vr v rfl)) (oY (d:=43) rfl rfl (vr (.bool (false)) (congrArg Value.bool (decide_eq_false (c)))) (Yk.eqI (a:=((i)+k:Nat)) (b:=(D.length:Nat)) rfl rfl (Bm _ _ _ _) (oS rfl (Yk.pickF (vr (.bool (false)) (congrArg Value.bool (decide_eq_false (c)))) (vr (.bool (false)) (congrArg Value.bool (decide_eq_false (ad)))) (oM rfl (oY (d:=49) rfl rfl (vr (.bool (false)) rfl) (Yk.move (vr (NI ((x)/(2))) rfl) (oY (d:=49) rfl rfl (vr (.bool (false)) rfl) (Yk.move f ?_))))))))))))))))))))))))
  refine oY (d:=49) rfl rfl (vr (.bool (false)) rfl) (Yk.lenRB DT (RB.of (hr.keep hE) (vr v rfl)) (oY (d:=49) rfl rfl (vr (.bool (false)) rfl) (Yk.move (vr (NI ((i)+k)) rfl) (oY (d:=49) rfl rfl (vr (.bool (false)) rfl) (Yk.bin (xv:=NI D.length) (yv:=NI ((i)+k)) rfl rfl rfl (Bj _ _ _ (by omega) (by omega)) (oY (d:=49) rfl rfl (vr (.bool (false)) rfl) (Yk.eqI (a:=((x)/(2):Nat)) (b:=((D.length)-((i)+k):Nat)) rfl rfl (Bm _ _ _ _) (oS rfl (Yk.pickF (vr (.bool (false)) rfl) (vr (.bool (true)) (congrArg Value.bool (decide_eq_true (ae)))) (AH [(0,vb),(1,v),(2,NI i),(6,(Value.slice none 0 0)),(7,NI 0),(8, .bool (false)),(9,NI x),(10,NI ((i)+k)),(11,NI 0),(12,NI ((x)/(2))),(13,v),(14,NI ((i)+k)),(23, .bool (false)),(56, .bool (true))] ⟨g,f,h,rfl,rfl,rfl,rfl,rfl,rfl,rfl,f,rfl,(congrArg Value.bool (decide_eq_false (by decide))),rfl,trivial⟩ fun dj ⟨g,f,h,u,y,z,r,s,ab,q,t,o,ac,j,_⟩=>(tN (bm _ _ (AE j (sk fun dk bn=>(wt (oA rfl (oA rfl (oA rfl (oZ (tN (bn _ _ (As (Am ?_)))))))))))))))))))))))
  refine Ao (fn:=Tryd.f89) _ rfl [(Value.slice none 0 0),NI 0, .bool (false)] (.tuple #[(Value.slice none 0 0),NI 0, .bool (false)]) rfl ⟨rfl,rfl,rfl,trivial⟩ ?_
  rw[Cd,hgx];simp only
  rw[if_neg hodd]
  rw[El,if_pos (by omega)]
  refine⟨?_,hE⟩
  first | rfl | trivial
 refine Ah (tN (aa _ _ (sk fun dl bo=>(sk fun dm bp=>(wt (oM rfl (oS rfl (Yk.eqI (a:=((x)/(2):Nat)) (b:=(1:Nat)) rfl rfl (AN _ _ _ _) (oM rfl (oY (d:=43) rfl rfl (vr (.bool (false)) (congrArg Value.bool (decide_eq_false (c)))) (Yk.move (vr (NI ((i)+k)) rfl) (oY (d:=43) rfl rfl (vr (.bool (false)) (congrArg Value.bool (decide_eq_false (c)))) (Yk.move f (oY (d:=43) rfl rfl (vr (.bool (false)) (congrArg Value.bool (decide_eq_false (c)))) (Yk.lenRB DT (RB.of (hr.keep hE) (vr v rfl)) (oY (d:=43) rfl rfl (vr (.bool (false)) (congrArg Value.bool (decide_eq_false (c)))) (Yk.eqI (a:=((i)+k:Nat)) (b:=(D.length:Nat)) rfl rfl (Bm _ _ _ _) (oS rfl (Yk.pickF (vr (.bool (false)) (congrArg Value.bool (decide_eq_false (c)))) (vr (.bool (false)) (congrArg Value.bool (decide_eq_false (ad)))) (oM rfl (oY (d:=49) rfl rfl (vr (.bool (false)) rfl) (Yk.move (vr (NI ((x)/(2))) rfl) (oY (d:=49) rfl rfl (vr (.bool (false)) rfl) (Yk.move f ?_))))))))))))))))))))))))
 refine oY (d:=49) rfl rfl (vr (.bool (false)) rfl) (Yk.lenRB DT (RB.of (hr.keep hE) (vr v rfl)) (oY (d:=49) rfl rfl (vr (.bool (false)) rfl) (Yk.move (vr (NI ((i)+k)) rfl) (oY (d:=49) rfl rfl (vr (.bool (false)) rfl) (Yk.bin (xv:=NI D.length) (yv:=NI ((i)+k)) rfl rfl rfl (Bj _ _ _ (by omega) (by omega)) (oY (d:=49) rfl rfl (vr (.bool (false)) rfl) (Yk.eqI (a:=((x)/(2):Nat)) (b:=((D.length)-((i)+k):Nat)) rfl rfl (Bm _ _ _ _) (oS rfl (Yk.pickF (vr (.bool (false)) rfl) (vr (.bool (false)) (congrArg Value.bool (decide_eq_false (ae)))) (AH [(0,vb),(1,v),(2,NI i),(6,(Value.slice none 0 0)),(7,NI 0),(8, .bool (false)),(9,NI x),(10,NI ((i)+k)),(11,NI 0),(12,NI ((x)/(2))),(13,v),(14,NI ((i)+k)),(23, .bool (false)),(56, .bool (false))] ⟨g,f,h,rfl,rfl,rfl,rfl,rfl,rfl,rfl,f,rfl,(congrArg Value.bool (decide_eq_false (by decide))),rfl,trivial⟩ fun dn ⟨g,f,h,u,y,z,r,s,ab,q,t,o,ac,j,_⟩=>(tN (bp _ _ (Ar j (Ah (tN (bo _ _ (sk fun dp bq=>(sk fun dq br=>(wt (oM rfl (oS rfl (Yk.bin (xv:=NI x) (yv:=NI 2) r rfl rfl (FH _ _ _ (by omega)) (oS rfl (Yk.eqI (a:=((x)%(2):Nat)) (b:=(0:Nat)) rfl rfl (Br _ _ _ _) ?_))))))))))))))))))))))))
 refine oZ (tN (br _ _ (AE (vr (.bool (true)) (congrArg Value.bool (decide_eq_true (by omega)))) (wt (oM rfl (oM rfl (oS rfl (Yk.bin (xv:=NI ((i)+k)) (yv:=NI ((x)/(2))) s q rfl (Ak _ _ _ (by omega)) (oA rfl (oZ (tN (bq _ _ (sk fun dr bs=>(wt (oM rfl (oM rfl (oM rfl (oM rfl ?_))))))))))))))))))
 refine oS rfl (Yk.bin (xv:=NI ((i)+k)) (yv:=NI ((x)/(2))) o q rfl (Ak _ _ _ (by omega)) (oS rfl (Yk.sliceLH (xs:=D) (l:=(i)+k) (n:=((i)+k)+((x)/(2))) DT Ls t (hr.keep hE) o (vr (NI (((i)+k)+((x)/(2)))) rfl) (by omega) (by omega) fun aj bt ha70=>(oM rfl (oA rfl (oA rfl (oA rfl (oZ (tN (bs _ _ (As (Ao (fn:=Tryd.f89) _ rfl [aj,NI (((i)+k)+((x)/(2))), .bool (true)] (.tuple #[aj,NI (((i)+k)+((x)/(2))), .bool (true)]) rfl ⟨rfl,rfl,rfl,trivial⟩ ?_))))))))))))
 rw[Cd,hgx];simp only
 rw[if_neg hodd]
 rw[El,if_neg (by omega)]
 refine⟨⟨_,rfl,?_⟩,hE⟩
 simpa only[Nat.add_sub_cancel_left] using bt
open Go.RowKit
set_option maxRecDepth 100000
theorem HN:A2 Tryd.prog 88:=fun _ _=>by kernel_rfl
theorem HP:A2 Tryd.prog 89:=fun _ _=>by kernel_rfl
theorem NR(w:World)(vb v:Value)(B D:List UInt8)(hrb:RB w vb B)(hr:RB w v D)(i:Nat)(hi:i≤D.length)(hB:B.length≤1048576)(hD:D.length≤4611686018427387904)(h:Cd B D i=none):
  Calls Tryd.prog 89 #[vb,v,NI i] w fun e w' =>e = .returned (.tuple #[.slice none 0 0,NI 0, .bool false])∧Ext w w' :=by
 have:=IG w vb v B D hrb hr i hi hB hD
 rw[h]at this
 exact this
theorem MB(w:World)(vb v:Value)(B D:List UInt8)(hrb:RB w vb B)(hr:RB w v D)(i:Nat)(hi:i≤D.length)(hB:B.length≤1048576)(hD:D.length≤4611686018427387904)(b:List UInt8)(nx:Nat)(h:Cd B D i=some (b,nx)):
  Calls Tryd.prog 89 #[vb,v,NI i] w fun e w' =>∃v',e = .returned (.tuple #[v',NI nx, .bool true])∧RB w' v' b∧Ext w w' :=by
 have:=IG w vb v B D hrb hr i hi hB hD
 rw[h]at this
 exact this.mono fun e w' ⟨⟨v',h1,h2⟩,h3⟩=>⟨v',h1,h2,h3⟩

theorem MC(w:World)(vb v:Value)(B D:List UInt8)(hrb:RB w vb B)(hr:RB w v D)(hB:B.length≤1048576)(hD:D.length≤4611686018427387904):
  Calls Tryd.prog 77 #[vb,v] w fun e w' =>∃v',e = .returned (.tuple #[v',NI (Bd B D).2])∧RB w' v' (Bd B D).1∧Ext w w' :=by
 refine AA (args:= [vb,v]) Tryd.func77 rfl 65 rfl (Nat.le_of_ble_eq_true rfl) ?_
 intro z hb
 have h:z 0=(vb:Value):=hb.get 0
 have c:z 1=(v:Value):=hb.get 1
 clear hb
 have hE:=Ext.refl w
 refine sk fun K1 aa=>(wt (oA rfl (oA rfl (oZ ?_))))
 rcases hsz:Du D with _ | ⟨sa,sb,sn⟩
 ·refine tN (aa _ _ (sk fun K2 af=>(wt (oM rfl (oS rfl (Yk.callA1 HN c ((NQ _ v D (hr.keep hE) hsz).mono ?_)))))))
  rintro e w4 ⟨rfl,ag⟩
  refine⟨_,rfl,?_⟩
  have hE:=hE.trans ag
  refine oM rfl (oS rfl (Yk.extract (vs:= [NI 0,NI 0,NI 0,NI 6]) (vr (.tuple #[NI 0,NI 0,NI 0,NI 6]) rfl) (show _=some (NI 0:Value)from rfl) (oS rfl (Yk.extract (vs:= [NI 0,NI 0,NI 0,NI 6]) (vr (.tuple #[NI 0,NI 0,NI 0,NI 6]) rfl) (show _=some (NI 0:Value)from rfl) (oS rfl (Yk.extract (vs:= [NI 0,NI 0,NI 0,NI 6]) (vr (.tuple #[NI 0,NI 0,NI 0,NI 6]) rfl) (show _=some (NI 0:Value)from rfl) (oS rfl (Yk.extract (vs:= [NI 0,NI 0,NI 0,NI 6]) (vr (.tuple #[NI 0,NI 0,NI 0,NI 6]) rfl) (show _=some (NI 6:Value)from rfl) (oA rfl (oA rfl (oA rfl (oA rfl (oZ (tN (af _ _ (sk fun K5 bh=>(Aj (sk fun K6 ah=>(wt (oM rfl ?_))))))))))))))))))))
  refine oS rfl (Yk.eqI (a:=(6:Nat)) (b:=(0:Nat)) rfl rfl (Dn _ _ _ _) (oA rfl (oZ (tN (ah _ _ (AE (vr (.bool (true)) (congrArg Value.bool (decide_eq_true (by decide)))) (sk fun K7 ai=>(wt (oM rfl (oA rfl (oA rfl (oZ (tN (ai _ _ (As (AR (Am (Ao (fn:=Tryd.f77) _ rfl [(Value.slice none 0 0),NI 6] (.tuple #[(Value.slice none 0 0),NI 6]) rfl ⟨rfl,rfl,trivial⟩ ?_))))))))))))))))))
  have hP:Bd B D=([],6):=by rw[Bd,hsz]
  rw[hP]
  exact⟨_,rfl,RB.nil _,hE⟩
 have hsb:=JK hsz
 refine tN (aa _ _ (sk fun K8 aj=>(wt (oM rfl (oS rfl (Yk.callA1 HN c ((MA _ v D (hr.keep hE) sa sb sn hsz).mono ?_)))))))
 rintro e ak ⟨rfl,al⟩
 refine⟨_,rfl,?_⟩
 have hE:=hE.trans al
 refine oM rfl (oS rfl (Yk.extract (vs:= [NI sa,NI sb,NI sn,NI 0]) (vr (.tuple #[NI sa,NI sb,NI sn,NI 0]) rfl) (show _=some (NI sa:Value)from rfl) (oS rfl (Yk.extract (vs:= [NI sa,NI sb,NI sn,NI 0]) (vr (.tuple #[NI sa,NI sb,NI sn,NI 0]) rfl) (show _=some (NI sb:Value)from rfl) (oS rfl (Yk.extract (vs:= [NI sa,NI sb,NI sn,NI 0]) (vr (.tuple #[NI sa,NI sb,NI sn,NI 0]) rfl) (show _=some (NI sn:Value)from rfl) (oS rfl (Yk.extract (vs:= [NI sa,NI sb,NI sn,NI 0]) (vr (.tuple #[NI sa,NI sb,NI sn,NI 0]) rfl) (show _=some (NI 0:Value)from rfl) (oA rfl (oA rfl (oA rfl (oA rfl (oZ (tN (aj _ _ (sk fun bm am=>(Aj (sk fun bn an=>(wt (oM rfl ?_))))))))))))))))))))
 refine oS rfl (Yk.eqI (a:=(0:Nat)) (b:=(0:Nat)) rfl rfl (Dn _ _ _ _) (oA rfl (oZ (tN (an _ _ (Ar (vr (.bool (false)) (congrArg Value.bool (decide_eq_false (by decide)))) (sk fun bo ao=>(wt (oM rfl (oS rfl (Yk.eqI (a:=(sb:Nat)) (b:=(262144:Nat)) rfl rfl (Bm _ _ _ _) (oA rfl (oZ (tN (ao _ _ ?_)))))))))))))))
 refine AO ((262144)<(sb)) (vr (.bool (decide ((262144)<(sb)))) rfl) (fun l=> ?_) (fun l=> ?_)
 ·refine sk fun bp ap=>(wt (oA rfl (oA rfl (oZ (tN (ap _ _ (As (AR (Am (Ao (fn:=Tryd.f77) _ rfl [(Value.slice none 0 0),NI 2] (.tuple #[(Value.slice none 0 0),NI 2]) rfl ⟨rfl,rfl,trivial⟩ ?_))))))))))
  have hP:Bd B D=([],2):=by rw[Bd,hsz];simp only;rw[if_pos l]
  rw[hP]
  exact⟨_,rfl,RB.nil _,hE⟩
 refine sk fun bq aq=>(wt (oM rfl (oM rfl (oS rfl (Yk.lenRB DT (RB.of (hrb.keep hE) h) (oS rfl (Yk.eqI (a:=(sa:Nat)) (b:=(B.length:Nat)) rfl rfl (Dn _ _ _ _) (oA rfl (oZ (tN (aq _ _ ?_)))))))))))
 refine AO ((sa:Nat)≠(B.length)) (vr (.bool (decide ((sa:Nat)≠(B.length)))) rfl) (fun n=> ?_) (fun n=> ?_)
 ·refine sk fun br ar=>(wt (oA rfl (oA rfl (oZ (tN (ar _ _ (As (AR (Am (Ao (fn:=Tryd.f77) _ rfl [(Value.slice none 0 0),NI 6] (.tuple #[(Value.slice none 0 0),NI 6]) rfl ⟨rfl,rfl,trivial⟩ ?_))))))))))
  have hP:Bd B D=([],6):=by rw[Bd,hsz];simp only;rw[if_neg l,if_pos n]
  rw[hP]
  exact⟨_,rfl,RB.nil _,hE⟩
 refine Ah (bN (tN (am _ _ (sk fun bs au=>(wt (oA rfl (AH [(0,vb),(1,v),(4,(Value.slice none 0 0)),(5,NI 0),(6,NI sa),(7,NI sb),(8,NI sn),(9,NI 0),(10,(Value.slice none 0 0)),(21, .bool (false))] ⟨h,c,rfl,rfl,rfl,rfl,rfl,rfl,rfl,(congrArg Value.bool (decide_eq_false (by decide))),trivial⟩ fun bt ⟨h,c,T4,T5,q,m,j,r,k,s,_⟩=> ?_)))))))
 have hoN:w.ownsRow w.heap.size 5 1 (Value.slice none 0 0) ([]:List UInt8).length (Lib.byteCells ([]:List UInt8)):=World.ownsRow_nil _ _ _ 1
 have hoN:ak.ownsRow w.heap.size 5 1 (Value.slice none 0 0) ([]:List UInt8).length (Lib.byteCells ([]:List UInt8)):=World.ownsRow_nil _ _ _ 1
 refine tN (au _ _ (sk fun bw av=>(Aj (AX (fun(ρ:Aq) (wz:World)=>∃i:Nat,∃f:Nat,∃o:List UInt8,∃vo:Value,ρ 0=(vb:Value)∧ρ 1=(v:Value)∧ρ 6=(NI sa:Value)∧ρ 7=(NI sb:Value)∧ρ 9=(NI 0:Value)∧ρ 21=(.bool (false):Value)∧ρ 8=(NI i:Value)∧ρ 10=(vo:Value)∧Ext w wz∧wz.ownsRow w.heap.size 5 1 vo o.length (Lib.byteCells (o))∧(Cj B D sb f i o=Cj B D sb (D.length+1) sn [])∧(D.length<i+f)∧(i≤D.length)∧(o.length≤sb)∧True) (fun ρ _=>D.length-(intOf (ρ 8)).toNat) ⟨sn,D.length+1,[],(Value.slice none 0 0),h,c,q,m,r,s,j,k,hE,BI hoN (rfl),rfl,by omega,by omega,by simp,trivial⟩ ?_))))
 clear hoN
 clear hE
 rintro aw bx ⟨i,f,o,vo,h,c,q,m,r,s,j,k,hE,ho_vo,hgo,hf,hi,hos,-⟩
 have q8:=j
 have ql10:=CV ho_vo
 obtain⟨f',rfl⟩:∃f',f=f' +1:=⟨f-1,by omega⟩
 refine sk fun bz ab=>(sk fun b0 ax=>(wt (oM rfl (oM rfl (oS rfl (Yk.lenRB DT (RB.of (hr.keep hE) c) (oS rfl (Yk.eqI (a:=(i:Nat)) (b:=(D.length:Nat)) j rfl (AN _ _ _ _) (oZ (tN (ax _ _ ?_)))))))))))
 refine AO ((i)<(D.length)) (vr (.bool (decide ((i)<(D.length)))) rfl) (fun p=> ?_) (fun p=> ?_)
 ·rcases hpc:Cd B D i with _ | ⟨pb,nx⟩
  ·refine Ah (tN (ab _ _ (Aj (sk fun b1 ay=>(wt (oM rfl (oM rfl (oM rfl (oS rfl (Yk.callA3 HP h c j ((NR _ vb v B D (hrb.keep hE) (hr.keep hE) i (by omega) hB hD hpc).mono ?_)))))))))))
   rintro e b2 ⟨rfl,ac⟩
   refine⟨_,rfl,?_⟩
   have hE:=hE.trans ac
   have ho_vo:=Stab.own _ _ _ _ _ _ _ _ ho_vo ac
   refine oM rfl (oS rfl (Yk.extract (vs:= [(Value.slice none 0 0),NI 0, .bool (false)]) (vr (.tuple #[(Value.slice none 0 0),NI 0, .bool (false)]) rfl) (show _=some ((Value.slice none 0 0):Value)from rfl) (oS rfl (Yk.extract (vs:= [(Value.slice none 0 0),NI 0, .bool (false)]) (vr (.tuple #[(Value.slice none 0 0),NI 0, .bool (false)]) rfl) (show _=some (NI 0:Value)from rfl) (oS rfl (Yk.extract (vs:= [(Value.slice none 0 0),NI 0, .bool (false)]) (vr (.tuple #[(Value.slice none 0 0),NI 0, .bool (false)]) rfl) (show _=some (.bool (false):Value)from rfl) (oA rfl (oA rfl (oA rfl (oZ (tN (ay _ _ (sk fun b3 b4=>(sk fun b5 az=>(wt (oM rfl (oS rfl (Yk.notB (vr (.bool (false)) rfl) (oM rfl (oN (d:=47) rfl rfl rfl (vr (.bool (true)) rfl) rfl ?_))))))))))))))))))))
   refine oN (d:=47) rfl rfl rfl (vr (.bool (true)) rfl) rfl (oN (d:=47) rfl rfl rfl (vr (.bool (true)) rfl) rfl (oN (d:=47) rfl rfl rfl (vr (.bool (true)) rfl) rfl (oN (d:=47) rfl rfl rfl (vr (.bool (true)) rfl) rfl (oN (d:=47) rfl rfl rfl (vr (.bool (true)) rfl) rfl (oN (d:=47) rfl rfl rfl (vr (.bool (true)) rfl) rfl (oS rfl (Yk.pickT (vr (.bool (true)) rfl) (vr (.bool (true)) rfl) (oZ (tN (az _ _ (AE (vr (.bool (true)) rfl) (sk fun b6 a0=>(wt (oA rfl (oA rfl (oZ (tN (a0 _ _ ?_))))))))))))))))))
   refine As (Am (AR (Am (AR (Am (Ao (fn:=Tryd.f77) _ rfl [(Value.slice none 0 0),NI 6] (.tuple #[(Value.slice none 0 0),NI 6]) rfl ⟨rfl,rfl,trivial⟩ ?_))))))
   rw[Cj,if_pos p,hpc]at hgo
   have hP:Bd B D=([],6):=by rw[Bd,hsz];simp only;rw[if_neg l,if_neg n,←hgo]
   rw[hP]
   exact⟨_,rfl,RB.nil _,hE⟩
  have hpb:=JL (by omega) hpc
  refine Ah (tN (ab _ _ (Aj (sk fun b7 a1=>(wt (oM rfl (oM rfl (oM rfl (oS rfl (Yk.callA3 HP h c j ((MB _ vb v B D (hrb.keep hE) (hr.keep hE) i (by omega) hB hD pb nx hpc).mono ?_)))))))))))
  rintro e a2 ⟨g,rfl,t,ad⟩
  refine⟨_,rfl,?_⟩
  have hE:=hE.trans ad
  have ho_vo:=Stab.own _ _ _ _ _ _ _ _ ho_vo ad
  refine oM rfl (oS rfl (Yk.extract (vs:= [g,NI nx, .bool (true)]) (vr (.tuple #[g,NI nx, .bool (true)]) rfl) (show _=some (g:Value)from rfl) (oS rfl (Yk.extract (vs:= [g,NI nx, .bool (true)]) (vr (.tuple #[g,NI nx, .bool (true)]) rfl) (show _=some (NI nx:Value)from rfl) (oS rfl (Yk.extract (vs:= [g,NI nx, .bool (true)]) (vr (.tuple #[g,NI nx, .bool (true)]) rfl) (show _=some (.bool (true):Value)from rfl) (oA rfl (oA rfl (oA rfl (oZ (tN (a1 _ _ (sk fun b8 a3=>(sk fun b9 a4=>(wt (oM rfl (oS rfl (Yk.notB (vr (.bool (true)) rfl) (oM rfl (oY (d:=47) rfl rfl (vr (.bool (false)) rfl) (Yk.move (vr g rfl) ?_)))))))))))))))))))))
  refine oY (d:=47) rfl rfl (vr (.bool (false)) rfl) (Yk.lenRB DT (RB.of t (vr g rfl)) (oY (d:=47) rfl rfl (vr (.bool (false)) rfl) (Yk.move m (oY (d:=47) rfl rfl (vr (.bool (false)) rfl) (Yk.move k (oY (d:=47) rfl rfl (vr (.bool (false)) rfl) (Yk.lenRB DT (RB.of (RB.ofOwn ho_vo) (vr vo rfl)) (oY (d:=47) rfl rfl (vr (.bool (false)) rfl) (Yk.bin (xv:=NI sb) (yv:=NI o.length) rfl rfl rfl (Bj _ _ _ (by omega) (by omega)) (oY (d:=47) rfl rfl (vr (.bool (false)) rfl) (Yk.eqI (a:=(pb.length:Nat)) (b:=((sb)-(o.length):Nat)) rfl rfl (Bm _ _ _ _) (oS rfl (Yk.pickF (vr (.bool (false)) rfl) (vr (.bool (decide (((sb)-(o.length))<(pb.length)))) rfl) (oZ (tN (a4 _ _ ?_))))))))))))))))
  refine AO (((sb)-(o.length))<(pb.length)) (vr (.bool (decide (((sb)-(o.length))<(pb.length)))) rfl) (fun u=> ?_) (fun u=> ?_)
  ·refine sk fun ca a5=>(wt (oA rfl (oA rfl (oZ (tN (a5 _ _ (As (Am (AR (Am (AR (Am (Ao (fn:=Tryd.f77) _ rfl [(Value.slice none 0 0),NI 6] (.tuple #[(Value.slice none 0 0),NI 6]) rfl ⟨rfl,rfl,trivial⟩ ?_)))))))))))))
   rw[Cj,if_pos p,hpc]at hgo
   simp only at hgo;rw[if_pos u]at hgo
   have hP:Bd B D=([],6):=by rw[Bd,hsz];simp only;rw[if_neg l,if_neg n,←hgo]
   rw[hP]
   exact⟨_,rfl,RB.nil _,hE⟩
  refine Ah (tN (a3 _ _ (wt (oM rfl (oM rfl (oS rfl (Yk.appendRB _ _ w.heap.size (.int .u8 0) DT FW rfl DT (o) (pb) (BB ho_vo k) (RB.of t (vr g rfl)) (by omega) hE.size fun x a6 a7 y=> ?_)))))))
  have y:Grew a2 a6 vo x:= .eqv k y
  have hE:=AC hE y ho_vo (Nat.le_refl _)
  clear ho_vo
  clear t
  refine oM rfl (oA rfl (oA rfl (AH [(0,vb),(1,v),(6,NI sa),(7,NI sb),(8,NI nx),(9,NI 0),(10,x),(11,g),(12,NI nx),(13, .bool (true)),(21, .bool (false))] ⟨h,c,q,m,rfl,r,rfl,rfl,rfl,rfl,s,trivial⟩ fun a8 ⟨h,c,q,m,j,r,k,cb,cc,cd,s,_⟩=>(bN (tN (And.intro ⟨nx,f',o++pb,x,h,c,q,m,r,s,j,k,hE,BI a7 (rfl),by rw[Cj,if_pos p,hpc]at hgo;simp only at hgo;rw[if_neg u]at hgo;exact hgo,by omega,by omega,by rw[List.length_append];omega,trivial⟩ ?_))))))
  show D.length-(intOf (a8 8)).toNat<D.length-(intOf (aw 8)).toNat
  rw[j,q8]
  simp only[intOf,Int.toNat_natCast];omega
 refine AJ (Ag (Ag (Ap (tN (av _ _ (sk fun ce a9=>(sk fun cf ba=>(wt (oM rfl (oS rfl (Yk.lenRB DT (RB.of (RB.ofOwn ho_vo) k) (oM rfl (oS rfl (Yk.eqI (a:=(o.length:Nat)) (b:=(sb:Nat)) rfl m (Dn _ _ _ _) (oZ (tN (ba _ _ ?_)))))))))))))))))
 refine AO ((o.length:Nat)≠(sb)) (vr (.bool (decide ((o.length:Nat)≠(sb)))) rfl) (fun ae=> ?_) (fun ae=> ?_)
 ·refine sk fun cg bb=>(wt (oA rfl (oA rfl (oZ (tN (bb _ _ (As (Am (Ao (fn:=Tryd.f77) _ rfl [(Value.slice none 0 0),NI 6] (.tuple #[(Value.slice none 0 0),NI 6]) rfl ⟨rfl,rfl,trivial⟩ ?_)))))))))
  rw[Cj,if_neg p,if_neg ae]at hgo
  have hP:Bd B D=([],6):=by rw[Bd,hsz];simp only;rw[if_neg l,if_neg n,←hgo]
  rw[hP]
  exact⟨_,rfl,RB.nil _,hE⟩
 refine Ah (tN (a9 _ _ (sk fun ch bc=>(wt (oM rfl (oA rfl (oA rfl (oZ (tN (bc _ _ (As (Ao (fn:=Tryd.f77) _ rfl [vo,NI 0] (.tuple #[vo,NI 0]) rfl ⟨k,rfl,trivial⟩ ?_))))))))))))
 rw[Cj,if_neg p,if_pos (by omega)]at hgo
 have hP:Bd B D=(o,0):=by rw[Bd,hsz];simp only;rw[if_neg l,if_neg n,←hgo]
 rw[hP]
 exact⟨_,rfl,RB.ofOwn ho_vo,hE⟩
open Go.RowKit
theorem GA(T:List UInt8)(fr to:Nat)(o:List UInt8):∃r,Ci T fr to o=o++r:=by
  unfold Ci
  split
  · exact⟨Lib.uvarint (2*(to-fr))++(T.drop fr).take (to-fr),by rw[List.append_assoc]⟩
  · exact⟨[],by simp⟩
theorem GB(B T:List UInt8):∀(f i fr:Nat) (o:List UInt8),∃r,Cx B T f i fr o=o++r
  | 0,_,fr,o=>GA T fr T.length o
  | f+1,i,fr,o=>by
    unfold Cx
    split
    · split
      · exact GB B T f _ _ _
      · obtain⟨r,hr⟩:=GB B T f (i+(BJ B T i).2) (i+(BJ B T i).2) (Ci T fr i o++Lib.uvarint (2*(BJ B T i).2+1)++Lib.uvarint (BJ B T i).1)
        obtain⟨q,hq⟩:=GA T fr i o
        exact⟨q++Lib.uvarint (2*(BJ B T i).2+1)++Lib.uvarint (BJ B T i).1++r,by rw[hr,hq];simp only[List.append_assoc]⟩
    · exact GA T fr T.length o
theorem DG(n:Nat)(h:n<9223372036854775808)(r:List UInt8):Bk 0 (Lib.uvarint n++r)=some (n,(Lib.uvarint n).length):=FJ r 8 n 0 (Nat.lt_of_lt_of_le h (by decide)) (by omega) (by omega)
theorem KB(B T:List UInt8)(hB:B.length≤1048576)(hT:T.length≤1048576):Du (Bv B T)=some (B.length,T.length,0+(Lib.uvarint B.length).length+(Lib.uvarint T.length).length):=by
  obtain⟨r,hr⟩:=GB B T T.length 0 0 (Lib.uvarint B.length++Lib.uvarint T.length)
  have h1:Bv B T=Lib.uvarint B.length++(Lib.uvarint T.length++r):=by rw[Bv,hr,List.append_assoc]
  unfold Du
  rw[h1,List.drop_zero,DG _ (by omega)]
  simp only
  rw[Nat.zero_add,List.drop_left,DG _ (by omega)]
open Go.RowKit
theorem Ii(B T:List UInt8)(i:Nat)(hi:i≤T.length):∀(zs:List Nat) (pn:Nat × Nat),(∀z∈zs,z≤B.length)→pn.1≤B.length→pn.2≤T.length-i→(zs.foldl (BN B T i) pn).1≤B.length∧(zs.foldl (BN B T i) pn).2≤T.length-i
  | [],_,_,h1,h2=>⟨h1,h2⟩
  | z :: zs,pn,hz,h1,h2=>by
    rw[List.foldl_cons]
    refine Ii B T i hi zs _ (fun x hx=>hz x (by simp[hx])) ?_ ?_
    · unfold BN
      split
      · exact hz z (by simp)
      · exact h1
    · unfold BN
      split
      · have:=(HJ (B.drop z) (T.drop i)).2
        rw[List.length_drop]at this
        exact this
      · exact h2
theorem Ij(B T:List UInt8)(i:Nat)(hi:i≤T.length):(BJ B T i).1≤B.length∧(BJ B T i).2≤T.length-i:=by
  unfold BJ
  split
  · refine Ii B T i hi _ _ (fun z hz=> ?_) (Nat.zero_le _) (Nat.zero_le _)
    unfold posOf at hz
    rw[List.mem_filter,List.mem_range]at hz
    omega
  · exact⟨Nat.zero_le _,Nat.zero_le _⟩
open Go.RowKit
theorem lcp_take:∀(a b:List UInt8) (n:Nat),n≤B3 a b→a.take n=b.take n
  | _,_,0,_=>by simp
  | [],b,n+1,h=>by simp[B3]at h
  | a :: u,[],n+1,h=>by simp[B3]at h
  | a :: u,b :: z,n+1,h=>by
    unfold B3 at h
    split at h
    · rename_i e
      rw[List.take_succ_cons,List.take_succ_cons,e,lcp_take u z n (by omega)]
    · omega
theorem JM:∀(n:Nat) (a b:List UInt8),n≤a.length→n≤b.length→a.take n=b.take n→n≤B3 a b
  | 0,_,_,_,_,_=>Nat.zero_le _
  | n+1,[],_,h,_,_=>by simp at h
  | n+1,_ :: _,[],_,h,_=>by simp at h
  | n+1,a :: u,b :: z,h1,h2,h=>by
    rw[List.take_succ_cons,List.take_succ_cons]at h
    injection h with c e
    unfold B3
    rw[if_pos c]
    have:=JM n u z (by simpa using h1) (by simpa using h2) e
    omega
theorem Ld(B T:List UInt8)(i:Nat):∀(zs:List Nat) (pn:Nat × Nat),(pn.2=0∨pn.2=B3 (B.drop pn.1) (T.drop i)∧8≤pn.2)→(∀z∈zs,8≤B3 (B.drop z) (T.drop i))→(zs.foldl (BN B T i) pn).2=0∨(zs.foldl (BN B T i) pn).2=B3 (B.drop (zs.foldl (BN B T i) pn).1) (T.drop i)∧8≤(zs.foldl (BN B T i) pn).2
  | [],_,h,_=>h
  | z :: zs,pn,h,hz=>by
    rw[List.foldl_cons]
    refine Ld B T i zs _ ?_ (fun x hx=>hz x (by simp[hx]))
    unfold BN
    split
    · exact .inr ⟨rfl,hz z (by simp)⟩
    · exact h
theorem Le(B T:List UInt8)(i:Nat)(h:(BJ B T i).2≠0):(BJ B T i).2=B3 (B.drop (BJ B T i).1) (T.drop i)∧8≤(BJ B T i).2:=by
  have key:(BJ B T i).2=0∨(BJ B T i).2=B3 (B.drop (BJ B T i).1) (T.drop i)∧8≤(BJ B T i).2:=by
    unfold BJ
    split
    · rename_i h8
      refine Ld B T i _ _ (.inl rfl) (fun z hz=> ?_)
      unfold posOf at hz
      rw[List.mem_filter,List.mem_range]at hz
      have he:=eq_of_beq hz.2
      exact JM 8 _ _ (by rw[List.length_drop];omega) (by rw[List.length_drop];omega) he
    · exact .inl rfl
  exact key.resolve_left h
def B0(T:List UInt8)(fr to:Nat):List UInt8:=if fr<to then Lib.uvarint (2*(to-fr))++(T.drop fr).take (to-fr)else []
def D6(B T:List UInt8):Nat→Nat→Nat→List UInt8
  | 0,_,fr=>B0 T fr T.length
  | f+1,i,fr=>if i<T.length then(if(BJ B T i).2=0 then D6 B T f (i+1) fr
      else B0 T fr i++(Lib.uvarint (2*(BJ B T i).2+1)++(Lib.uvarint (BJ B T i).1++D6 B T f (i+(BJ B T i).2) (i+(BJ B T i).2))))else B0 T fr T.length
theorem Dd(T:List UInt8)(fr to:Nat)(o:List UInt8):Ci T fr to o=o++B0 T fr to:=by
  unfold Ci B0
  split
  · rw[List.append_assoc]
  · simp
theorem Hq(B T:List UInt8):∀(f i fr:Nat) (o:List UInt8),Cx B T f i fr o=o++D6 B T f i fr
  | 0,_,fr,o=>Dd T fr T.length o
  | f+1,i,fr,o=>by
    unfold Cx D6
    split
    · split
      · exact Hq B T f _ _ _
      · rw[Hq B T f,Dd]
        simp only[List.append_assoc]
    · exact Dd T fr T.length o
theorem MD(n:Nat)(h:n<16384):(Lib.uvarint n).length≤2:=Lib.uvarint_length 1 n (by omega)
theorem F4(T:List UInt8)(fr to:Nat)(ht:to≤T.length)(hT:T.length≤5000):(B0 T fr to).length≤2*(to-fr):=by
  unfold B0
  split
  · have h2:=MD (2*(to-fr)) (by omega)
    rw[List.length_append,List.length_take,List.length_drop]
    by_cases h1:to-fr=1
    · rw[h1,Lib.uvarint_small (by omega)]
      simp
      omega
    · omega
  · simp
theorem GC(B T:List UInt8)(hB:B.length≤5000)(hT:T.length≤5000):∀(f i fr:Nat),fr≤i→i≤T.length→(D6 B T f i fr).length≤2*(T.length-fr)
  | 0,i,fr,_,_=>F4 T fr T.length (Nat.le_refl _) hT
  | f+1,i,fr,h,hi=>by
    unfold D6
    split
    · split
      · exact GC B T hB hT f (i+1) fr (by omega) (by omega)
      · rename_i h1 hn
        have hb:=Ij B T i hi
        have h8:=(Le B T i hn).2
        have ih:=GC B T hB hT f (i+(BJ B T i).2) (i+(BJ B T i).2) (Nat.le_refl _) (by omega)
        have hf:=F4 T fr i hi hT
        have a:=MD (2*(BJ B T i).2+1) (by omega)
        have b:=MD (BJ B T i).1 (by omega)
        simp only[List.length_append]
        omega
    · exact F4 T fr T.length (Nat.le_refl _) hT
theorem Lf(B T:List UInt8):Bv B T=Lib.uvarint B.length++Lib.uvarint T.length++D6 B T T.length 0 0:=Hq B T _ _ _ _
theorem Fj(B T:List UInt8)(hB:B.length≤5000)(hT:T.length≤5000):(Bv B T).length≤2*T.length+18:=by
  have:=GC B T hB hT T.length 0 0 (Nat.le_refl _) (Nat.zero_le _)
  have a:=MD B.length (by omega)
  have b:=MD T.length (by omega)
  rw[Lf,List.length_append,List.length_append]
  omega
theorem ME(B pre bs rest:List UInt8)(h1:1≤bs.length)(h2:bs.length≤1048576):Cd B (pre++(Lib.uvarint (2*bs.length)++(bs++rest))) pre.length=some (bs,pre.length+(Lib.uvarint (2*bs.length)).length+bs.length):=by
  unfold Cd
  rw[List.drop_left,DG _ (by omega)]
  simp only
  rw[if_neg (by omega),El,if_neg (by simp only[List.length_append];omega),Nat.mul_div_cancel_left _ (by decide)]
  rw[show pre++(Lib.uvarint (2*bs.length)++(bs++rest))=(pre++Lib.uvarint (2*bs.length))++(bs++rest) by rw[List.append_assoc],←List.length_append,List.drop_left,List.take_left]
theorem LE(B pre rest:List UInt8)(p n:Nat)(hn:1≤n)(hp:p≤B.length)(hpn:n≤B.length-p)(hB:B.length≤1048576):Cd B (pre++(Lib.uvarint (2*n+1)++(Lib.uvarint p++rest))) pre.length=some ((B.drop p).take n,pre.length+(Lib.uvarint (2*n+1)).length+(Lib.uvarint p).length):=by
  unfold Cd
  rw[List.drop_left,DG _ (by omega)]
  simp only
  rw[if_pos (by omega),show pre++(Lib.uvarint (2*n+1)++(Lib.uvarint p++rest))=(pre++Lib.uvarint (2*n+1))++(Lib.uvarint p++rest) by rw[List.append_assoc],←List.length_append,List.drop_left,DG _ (by omega)]
  simp only
  rw[show(2*n+1)/2=n by omega,El,if_neg (by omega)]
theorem IH(T:List UInt8)(fr to:Nat)(h:fr≤to):T.take fr++(T.drop fr).take (to-fr)=T.take to:=by
  rw[←List.take_add]
  congr 1
  omega
theorem HQ(B T pre rest:List UInt8)(fr to:Nat)(h:fr≤to)(ht:to≤T.length)(hT:T.length≤1048576)(g:Nat)(hg:(B0 T fr to++rest).length<g):∃g',rest.length<g' ∧Cj B (pre++(B0 T fr to++rest)) T.length g pre.length (T.take fr)=Cj B (pre++(B0 T fr to++rest)) T.length g' (pre++B0 T fr to).length (T.take to):=by
  by_cases hlt:fr<to
  · have hl:((T.drop fr).take (to-fr)).length=to-fr:=by rw[List.length_take,List.length_drop];omega
    have hf:B0 T fr to=Lib.uvarint (2*((T.drop fr).take (to-fr)).length)++(T.drop fr).take (to-fr):=by rw[B0,if_pos hlt,hl]
    have hfl:1≤(B0 T fr to).length:=by rw[hf,List.length_append,hl];omega
    cases g with
    | zero=>omega
    | succ g=>
      refine⟨g,by rw[List.length_append]at hg;omega,?_⟩
      rw[Cj,if_pos (by simp only[List.length_append];omega)]
      have hp:=ME B pre ((T.drop fr).take (to-fr)) rest (by omega) (by omega)
      rw[show pre++(B0 T fr to++rest)=pre++(Lib.uvarint (2*((T.drop fr).take (to-fr)).length)++((T.drop fr).take (to-fr)++rest)) by rw[hf,List.append_assoc],hp]
      simp only
      rw[if_neg (by rw[hl,List.length_take];omega),IH T fr to h]
      congr 1
      rw[hf]
      simp only[List.length_append]
      omega
  · have he:fr=to:=by omega
    subst he
    have hf:B0 T fr fr= []:=by rw[B0,if_neg (by omega)]
    rw[hf]at hg ⊢
    exact⟨g,by simpa using hg,by simp⟩
theorem KC(B D T:List UInt8)(g:Nat)(hg:0<g):Cj B D T.length g D.length (T.take T.length)=some T:=by
  cases g with
  | zero=>omega
  | succ g=>rw[Cj,if_neg (by omega),List.take_length,if_pos rfl]
theorem II(B T pre:List UInt8)(fr:Nat)(h:fr≤T.length)(hT:T.length≤1048576)(g:Nat)(hg:(B0 T fr T.length).length<g):Cj B (pre++B0 T fr T.length) T.length g pre.length (T.take fr)=some T:=by
  obtain⟨g',h1,h2⟩:=HQ B T pre [] fr T.length h (Nat.le_refl _) hT g (by simpa using hg)
  rw[List.append_nil]at h2
  rw[h2]
  exact KC B _ T g' (by omega)
theorem GD(B T:List UInt8)(hB:B.length≤1048576)(hT:T.length≤1048576):∀(f i fr:Nat) (pre:List UInt8) (g:Nat),fr≤i→i≤T.length→(D6 B T f i fr).length<g→Cj B (pre++D6 B T f i fr) T.length g pre.length (T.take fr)=some T
  | 0,i,fr,pre,g,h1,h2,hg=>II B T pre fr (by omega) hT g hg
  | f+1,i,fr,pre,g,h1,h2,hg=>by
    unfold D6 at hg ⊢
    split
    · rename_i hi
      rw[if_pos hi]at hg
      split
      · rename_i hn
        rw[if_pos hn]at hg
        exact GD B T hB hT f (i+1) fr pre g (by omega) (by omega) hg
      · rename_i hn
        rw[if_neg hn]at hg
        have hb:=Ij B T i h2
        have hs:=Le B T i hn
        generalize BJ B T i=pn at *
        obtain⟨p,n⟩:=pn
        simp only at hn hb hs hg ⊢
        have hpn:=(HJ (B.drop p) (T.drop i)).1
        rw[List.length_drop]at hpn
        obtain⟨g',h3,h4⟩:=HQ B T pre (Lib.uvarint (2*n+1)++(Lib.uvarint p++D6 B T f (i+n) (i+n))) fr i h1 h2 hT g hg
        rw[h4]
        have hu:=Lib.uvarint_pos (2*n+1)
        cases g' with
        | zero=>omega
        | succ g' =>
          rw[←List.append_assoc pre,Cj,if_pos (by simp only[List.length_append];omega),LE B (pre++B0 T fr i) _ p n (by omega) hb.1 (by omega) hB]
          simp only
          have hl:((B.drop p).take n).length=n:=by rw[List.length_take,List.length_drop];omega
          rw[if_neg (by rw[hl,List.length_take];omega),lcp_take (B.drop p) (T.drop i) n (by omega)]
          have ht:T.take i++(T.drop i).take n=T.take (i+n):=by
            have:=IH T i (i+n) (by omega)
            rwa [Nat.add_sub_cancel_left]at this
          rw[ht]
          have ih:=GD B T hB hT f (i+n) (i+n) (pre++B0 T fr i++Lib.uvarint (2*n+1)++Lib.uvarint p) g' (Nat.le_refl _) (by omega) (by simp only[List.length_append]at h3;omega)
          rw[←ih]
          simp only[List.append_assoc,List.length_append,Nat.add_assoc]
    · rename_i hi
      rw[if_neg hi]at hg
      exact II B T pre fr (by omega) hT g hg
theorem LF(B T:List UInt8)(hB:B.length≤5000)(hT:T.length≤5000):Bd B (Bv B T)=(T,0):=by
  unfold Bd
  rw[KB B T (by omega) (by omega)]
  simp only
  rw[if_neg (by omega),if_neg (by simp),Lf,Nat.zero_add,←List.length_append]
  have:=GD B T (by omega) (by omega) T.length 0 0 (Lib.uvarint B.length++Lib.uvarint T.length) ((Lib.uvarint B.length++Lib.uvarint T.length++D6 B T T.length 0 0).length+1) (Nat.le_refl _) (Nat.zero_le _) (by simp only[List.length_append];omega)
  rw[List.take_zero]at this
  rw[this]
open Go.RowKit
theorem Sha.be64_take(n i:Nat)(h:i<8):(Sha.be64 n).take (i+1)=(Sha.be64 n).take i++ [UInt8.ofNat (n/2^(56-8*i))]:=by
 unfold Sha.be64
 rw[List.take_succ_eq_append_getElem (by simp;omega)]
 simp
theorem LG(w:World):(Instr.buildSlice 24 0 #[]).run Tryd.prog w = .ok (.slice (some ⟨w.heap.size,0,none⟩) 0 0) (w.alloc (.cells #[] 5)):=by kernel_rfl
theorem IJ:Tryd.prog.underlying 95=some (.int .u64):=by kernel_rfl
set_option maxRecDepth 100000
theorem DA(w:World)(x:UInt32)(n:Nat)(h0:0<n)(h1:n<32):
  Calls Tryd.prog 46 #[U x, .int .u64 (n:Int)] w fun e w' =>e = .returned (U (Sha.rotr x n))∧Ext w w' :=by
 refine AA (args:= [U (x), .int .u64 ((n:Nat):Int)]) Tryd.func46 rfl 13 rfl (Nat.le_of_ble_eq_true rfl) ?_
 intro a hb
 have b:a 0=(U (x):Value):=hb.get 0
 have c:a 1=(.int .u64 ((n:Nat):Int):Value):=hb.get 1
 clear hb
 have hE:=Ext.refl w
 refine sk fun h f=>(wt (oA rfl (oZ (tN (f _ _ (sk fun i g=>(wt (oM rfl (oM rfl (oS rfl (Yk.bin (yv:= .int .u64 ((n:Nat):Int)) b c rfl (D5 _ _ _ (n) (by omega)) (oM rfl (oM rfl (oS rfl (Yk.bin (xv:= .int .u64 ((32:Nat):Int)) (yv:= .int .u64 ((n:Nat):Int)) rfl c rfl (KV _ _ _ (by omega) (by omega)) (oS rfl (Yk.bin (yv:= .int .u64 (((32)-(n):Nat):Int)) b (vr (.int .u64 (((32)-(n):Nat):Int)) rfl) rfl (Fh _ _ _ ((32)-(n)) (by omega)) (oS rfl (Yk.bin (vr (U ((x)>>>UInt32.ofNat (n))) rfl) (vr (U ((x)<<<UInt32.ofNat ((32)-(n)))) rfl) rfl (Gp _ _ _) (oA rfl ?_))))))))))))))))))))
 refine oZ (tN (g _ _ (As (Ao (fn:=Tryd.f46) _ rfl [U (((x)>>>UInt32.ofNat (n))|||((x)<<<UInt32.ofNat ((32)-(n))))] (U (((x)>>>UInt32.ofNat (n))|||((x)<<<UInt32.ofNat ((32)-(n))))) rfl ⟨rfl,trivial⟩ ?_))))
 exact⟨by unfold Sha.rotr;rw[UInt32.or_comm],hE⟩

theorem OI(w:World)(t:Nat)(ht:t<64):
  Calls Tryd.prog 47 #[NI t] w fun e w' =>e = .returned (U (Sha.words.getD t 0))∧Ext w w' :=by
 refine AA (args:= [NI t]) Tryd.func47 rfl 8 rfl (Nat.le_of_ble_eq_true rfl) ?_
 intro g hb
 have h:g 0=(NI t:Value):=hb.get 0
 clear hb
 have hE:=Ext.refl w
 refine sk fun p j=>(wt (oA rfl (oZ (tN (j _ _ (sk fun q k=>(wt (oS rfl (Yk.run (v:= .agg (Sha.words.map fun x=>U x).toArray) (by kernel_rfl) (oS rfl (Yk.alloc (cs:=((List.replicate 64 0).map fun x=>U x).toArray) Iz fun b l r c m s=> ?_)))))))))))
 have hE:=hE.trans m
 have a:=c;clear c
 have u:b<l.heap.size:=by omega
 refine oS rfl (Yk.storeAll (vr (PQ b 0) rfl) (vr (.agg (Sha.words.map fun x=>U x).toArray) rfl) a (rfl) (FZ) (Do _) fun y f n z=> ?_)
 have hE:=Ac hE n (Nat.le_trans (Nat.le_refl _) (by omega))
 clear a
 have a:=f;clear f
 have aa:=bl a
 refine oZ (tN (k _ _ (sk fun ab o=>(wt (oM rfl (oS rfl (Yk.atArr0 (i:=t) CP A9 (vr (PQ b 0) rfl) h (by omega) (oS rfl (Yk.cell1 A8 rfl (vr (PQ b t) rfl) (Ai a (AW (i:=t) (by show _<64;omega))) (oA rfl (oZ (tN (o _ _ (As (Ao (fn:=Tryd.f47) _ rfl [U ((Sha.words).getD (t) 0)] (U ((Sha.words).getD (t) 0)) rfl ⟨rfl,trivial⟩ ?_)))))))))))))))
 exact⟨rfl,hE⟩

theorem LH(w:World)(v:Value)(l:List UInt8)(hr:RB w v l)(hl:l.length≤70368744177664):
  Calls Tryd.prog 45 #[v] w fun e w' =>∃v',e = .returned v' ∧NewB 5 w w' v' (l++Sha.tail l.length):=by
 refine AA (args:= [v]) Tryd.func45 rfl 38 rfl (Nat.le_of_ble_eq_true rfl) ?_
 intro az hb
 have f:az 0=(v:Value):=hb.get 0
 clear hb
 have hE:=Ext.refl w
 refine sk fun K1 a0=>(wt (oA rfl (oZ (tN (a0 _ _ (sk fun K2 a1=>(wt (oS rfl (Yk.lit0 LG fun g w4 ai=> ?_)))))))))
 have hE:=hE.trans ai.ext
 have aj:=ai.own;clear ai
 refine oM rfl (oS rfl (Yk.appendRB _ _ w.heap.size (.int .u8 0) DT FW rfl DT (([]:List UInt8)) (l) (BB aj (vr g rfl)) (RB.of (hr.keep hE) f) (by simp;omega) hE.size fun t w8 o ak=> ?_))
 have ak:Grew w4 w8 g t:=ak
 have hE:=AC hE ak aj (Nat.le_refl _)
 clear aj
 refine oA rfl (oZ (tN (a1 _ _ (sk fun bw a3=>(wt (oM rfl (oS rfl (Yk.lit1 (b:=128) Mk (vr (B8 (128)) rfl) fun u a4 p=> ?_))))))))
 have al:=Ext.refl w8
 have bx:=hE
 have bz:=hE.size
 have aq:Ae t u:=A4 o p.own
 have b0:Ae u t:=A0 o p.own
 have hE:=hE.trans p.ext
 have o:=Stab.own _ _ _ _ _ _ _ _ o p.ext
 have al:=al.trans p.ext
 have x:=p.own;clear p
 refine oS rfl (Yk.appendRB _ _ w.heap.size (.int .u8 0) DT FW rfl DT (([]:List UInt8)++l) ([(128:UInt8)]) (BB o (vr t rfl)) (RB.of (RB.ofOwn x) (vr u rfl)) (by simp;omega) hE.size fun y a5 ar z=> ?_)
 have z:Grew a4 a5 t y:=z
 have a6:Ae y u:=Au z aq x
 have b1:Ae u y:=fun k h1 h2=>a6 k h2 h1
 have hE:=AC hE z o (Nat.le_refl _)
 clear o
 clear al
 have x:=Bg x z aq
 refine oA rfl (AH [(0,v),(2,(Value.slice none 0 0)),(3,y)] ⟨f,rfl,rfl,trivial⟩ fun b2 ⟨f,h,c,_⟩=>(tN (a3 _ _ (sk fun b3 a7=>(Aj (AX (fun(ρ:Aq) (wz:World)=>∃k:Nat,∃g:Value,ρ 0=(v:Value)∧ρ 2=((Value.slice none 0 0):Value)∧ρ 3=(g:Value)∧Ext w wz∧wz.ownsRow w.heap.size 5 1 g (l++128 :: List.replicate k 0:List UInt8).length (Lib.byteCells (l++128 :: List.replicate k 0))∧(k≤(119-l.length%64)%64)∧True) (fun ρ _=>l.length+65-Bz (ρ 3)) ⟨0,y,f,h,c,hE,BI ar (by simp),Nat.zero_le _,trivial⟩ ?_))))))
 clear x
 clear ar
 clear hE
 rintro a8 au ⟨k,g,f,h,c,hE,ho_v3,hk,-⟩
 have q3:=c
 have ql3:=CV ho_v3
 refine sk fun b4 a9=>(sk fun b5 ba=>(wt (oM rfl (oS rfl (Yk.lenRB DT (RB.of (RB.ofOwn ho_v3) c) (oS rfl (Yk.bin (xv:=NI ((l++128 :: List.replicate k 0:List UInt8).length)) (yv:=NI 64) rfl rfl rfl (FH _ _ _ (by omega)) (oS rfl (Yk.eqI (a:=(((l++128 :: List.replicate k 0:List UInt8).length)%(64):Nat)) (b:=(56:Nat)) rfl rfl (Dn _ _ _ _) (oZ (tN (ba _ _ ?_))))))))))))
 refine AO ((((l++128 :: List.replicate k 0:List UInt8).length)%(64):Nat)≠(56)) (vr (.bool (decide ((((l++128 :: List.replicate k 0:List UInt8).length)%(64):Nat)≠(56)))) rfl) (fun am=> ?_) (fun am=> ?_)
 ·refine Ah (tN (a9 _ _ (Aj (wt (oM rfl (oS rfl (Yk.lit1 (b:=0) Mk (vr (B8 (0)) rfl) fun aa bb q=> ?_)))))))
  have an:=Ext.refl au
  have b6:=hE
  have b7:=hE.size
  have av:Ae g aa:=A4 ho_v3 q.own
  have b8:Ae aa g:=A0 ho_v3 q.own
  have hE:=hE.trans q.ext
  have ho_v3:=Stab.own _ _ _ _ _ _ _ _ ho_v3 q.ext
  have an:=an.trans q.ext
  have ag:=q.own;clear q
  refine oS rfl (Yk.appendRB _ _ w.heap.size (.int .u8 0) DT FW rfl DT (l++128 :: List.replicate k 0) ([(0:UInt8)]) (BB ho_v3 c) (RB.of (RB.ofOwn ag) (vr aa rfl)) (by simp;omega) hE.size fun ab bc aw ac=> ?_)
  have ac:Grew bb bc g ab:= .eqv c ac
  have bd:Ae ab aa:=Au ac av ag
  have b9:Ae aa ab:=fun k h1 h2=>bd k h2 h1
  have hE:=AC hE ac ho_v3 (Nat.le_refl _)
  clear ho_v3
  clear an
  have ag:=Bg ag ac av
  refine oA rfl (AH [(0,v),(2,(Value.slice none 0 0)),(3,ab)] ⟨f,h,rfl,trivial⟩ fun be ⟨f,h,c,_⟩=>(bN (tN (And.intro ⟨k+1,ab,f,h,c,hE,BI aw (by simp[List.replicate_succ']),by simp at am;omega,trivial⟩ ?_))))
  show l.length+65-Bz (be 3)<l.length+65-Bz (a8 3)
  rw[c,q3]
  have qn:=CV aw
  rw[qn,ql3]
  simp
  omega
 refine AJ (Ag (Ag (Ap (tN (a7 _ _ (sk fun ca bf=>(wt (oM rfl (oS rfl (Yk.lenRB DT (RB.of (hr.keep hE) f) (oS rfl (Yk.convI NA IJ (vr (NI l.length) rfl) (EZ (l.length) (by omega)) (oS rfl (Yk.bin (xv:= .int .u64 ((l.length:Nat):Int)) (yv:= .int .u64 ((8:Nat):Int)) rfl rfl rfl (KU _ _ _ (by omega)) (oA rfl (oZ ?_))))))))))))))))
 obtain⟨Z,hZ⟩:∃Z,Z=l++128 :: List.replicate k 0:=⟨_,rfl⟩
 have ho_v3:au.ownsRow w.heap.size 5 1 g (Z:List UInt8).length (Lib.byteCells (Z)):=(hZ.symm:l++128 :: List.replicate k 0=Z)▸ho_v3
 have hZl:Z.length=l.length+1+k:=by rw[hZ];simp;omega
 refine tN (bf _ _ (sk fun cb bg=>(sk fun cc bh=>(wt (oA rfl (AH [(0,v),(2,(Value.slice none 0 0)),(3,g),(4, .int .u64 (((l.length)*(8):Nat):Int)),(5,NI 0)] ⟨f,h,c,rfl,rfl,trivial⟩ fun cd ⟨f,h,c,s,j,_⟩=>(tN (bh _ _ (Aj (AX (fun(ρ:Aq) (wz:World)=>∃i:Nat,∃n:Value,ρ 0=(v:Value)∧ρ 2=((Value.slice none 0 0):Value)∧ρ 4=(.int .u64 (((l.length)*(8):Nat):Int):Value)∧ρ 5=(NI i:Value)∧ρ 3=(n:Value)∧Ext w wz∧wz.ownsRow w.heap.size 5 1 n (Z++(Sha.be64 (8*l.length)).take i:List UInt8).length (Lib.byteCells (Z++(Sha.be64 (8*l.length)).take i))∧(i≤8)∧True) (fun ρ _=>8-(intOf (ρ 5)).toNat) ⟨0,g,f,h,s,j,c,hE,BI ho_v3 (by simp),by omega,trivial⟩ ?_))))))))))
 clear ho_v3
 clear hE
 rintro bi bj ⟨i,n,f,h,s,j,c,hE,m,hi,-⟩
 have q5:=j
 have ql3:=CV m
 refine sk fun ce bk=>(sk fun cf bm=>(wt (oM rfl (oS rfl (Yk.eqI (a:=(i:Nat)) (b:=(8:Nat)) j rfl (AN _ _ _ _) (oZ (tN (bm _ _ ?_))))))))
 refine AO ((i)<(8)) (vr (.bool (decide ((i)<(8)))) rfl) (fun ax=> ?_) (fun ax=> ?_)
 ·refine Ah (tN (bk _ _ (sk fun cg bn=>(Aj (wt (oM rfl (oM rfl (oM rfl (oS rfl (Yk.bin (xv:=NI 8) (yv:=NI i) rfl j rfl (BG _ _ _ (by omega)) (oS rfl (Yk.bin (xv:=NI 56) (yv:=NI ((8)*(i))) rfl rfl rfl (Bj _ _ _ (by omega) (by omega)) (oS rfl (Yk.convI NA Mb (vr (NI ((56)-((8)*(i)))) rfl) (EZ ((56)-((8)*(i))) (by omega)) (oS rfl (Yk.bin (xv:= .int .u64 (((l.length)*(8):Nat):Int)) (yv:= .int .u64 (((56)-((8)*(i)):Nat):Int)) s rfl rfl (KW _ _ _ _ (by omega)) (oS rfl (Yk.convI IJ u5 (vr (.int .u64 ((((l.length)*(8))/2^((56)-((8)*(i))):Nat):Int)) rfl) (DX (((l.length)*(8))/2^((56)-((8)*(i))))) (oS rfl (Yk.lit1 (b:=UInt8.ofNat (((l.length)*(8))/2^((56)-((8)*(i))))) Mk (vr (B8 (UInt8.ofNat (((l.length)*(8))/2^((56)-((8)*(i)))))) rfl) fun ad bo r=> ?_))))))))))))))))))))
  have ao:=Ext.refl bj
  have ch:=hE
  have ci:=hE.size
  have ay:Ae n ad:=A4 m r.own
  have cj:Ae ad n:=A0 m r.own
  have hE:=hE.trans r.ext
  have m:=Stab.own _ _ _ _ _ _ _ _ m r.ext
  have ao:=ao.trans r.ext
  have ah:=r.own;clear r
  refine oS rfl (Yk.appendRB _ _ w.heap.size (.int .u8 0) DT FW rfl DT (Z++(Sha.be64 (8*l.length)).take i) ([(UInt8.ofNat (((l.length)*(8))/2^((56)-((8)*(i)))):UInt8)]) (BB m c) (RB.of (RB.ofOwn ah) (vr ad rfl)) (by simp[Sha.be64];omega) hE.size fun ae bp bq af=> ?_)
  have af:Grew bo bp n ae:= .eqv c af
  have br:Ae ae ad:=Au af ay ah
  have ck:Ae ad ae:=fun k h1 h2=>br k h2 h1
  have hE:=AC hE af m (Nat.le_refl _)
  clear m
  clear ao
  have ah:=Bg ah af ay
  refine oA rfl (oZ (bN (tN (bn _ _ (wt (oM rfl (oS rfl (Yk.bin (xv:=NI i) (yv:=NI 1) j rfl rfl (Ak _ _ _ (by omega)) (oA rfl (AH [(0,v),(2,(Value.slice none 0 0)),(3,ae),(4, .int .u64 (((l.length)*(8):Nat):Int)),(5,NI ((i)+(1)))] ⟨f,h,rfl,s,rfl,trivial⟩ fun bs ⟨f,h,c,s,j,_⟩=>(tN (And.intro ⟨i+1,ae,f,h,s,j,c,hE,BI bq (by rw[Sha.be64_take _ _ ax,List.append_assoc,Nat.mul_comm l.length 8]),by omega,trivial⟩ ?_))))))))))))
  show 8-(intOf (bs 5)).toNat<8-(intOf (bi 5)).toNat
  rw[j,q5]
  simp only[intOf,Int.toNat_natCast];omega
 refine AJ (Ag (Ag (Ap (tN (bg _ _ (sk fun cl bt=>(wt (oM rfl (oA rfl (oZ (tN (bt _ _ (As (Ao (fn:=Tryd.f45) _ rfl [n] (n) rfl ⟨c,trivial⟩ ?_))))))))))))))
 exact⟨_,rfl,BI m (by simp at am;rw[hZ,show i=8 by omega,show k=(119-l.length%64)%64 by omega,List.take_of_length_le (by simp[Sha.be64])];simp[Sha.tail]),Ext.grown hE⟩
open Go.RowKit
set_option maxRecDepth 100000
def HashAt(w:World)(g:Nat)(p:List UInt8):Prop:=∃s r,Sha.At p s r∧w.heap[g]? =some (.cells (hashL s r (p.length%64) p.length).toArray 125 (0,0))
theorem HashAt.keep{w w' :World}{g:Nat}{p:List UInt8}(h:HashAt w g p)(k:Ext w w'):HashAt w' g p:=by
  obtain⟨s,r,h1,h2⟩:=h
  exact⟨s,r,h1,eb k h2⟩
theorem MF:Tryd.prog.underlying 76=some (.pointer 125):=by kernel_rfl
theorem GE:BK Tryd.prog 125 3 73:=fun b o w=>by simp[go_sem]
theorem GF:BK Tryd.prog 125 1 8:=fun b o w=>by simp[go_sem]
theorem DH:BK Tryd.prog 125 2 72:=fun b o w=>by simp[go_sem]
theorem HT:Tryd.prog.underlying 123=some (.array 64 5):=by kernel_rfl
theorem GG:BK Tryd.prog 125 0 0:=fun b o w=>by simp[go_sem]
theorem MG:A2 Tryd.prog 69:=fun _ _=>by kernel_rfl
theorem OJ(w:World)(hG:Laid w):
    Calls Tryd.prog 38 #[] w fun e w' =>∃g,e = .returned (PQ g 0)∧w.heap.size≤g∧HashAt w' g []∧Ext w w' :=by
  obtain⟨tF,fF,hF0⟩:=hG.first
  refine AA (args:= []) Tryd.func38 rfl 4 rfl (Nat.le_of_ble_eq_true rfl) ?_
  intro k hb
  clear hb
  have hE:=Ext.refl w
  refine sk fun l c=>(wt (oA rfl (oZ (tN (c _ _ (sk fun m f=>(wt (oS rfl (Yk.loadAll (vr (PQ 0 0) rfl) (eb hE hF0) Bf rfl DQ (oS rfl (Yk.run (v:= .agg (hashL Sha.first (List.replicate 64 0) 0 0).toArray) (by kernel_rfl) (oS rfl (Yk.box (cs:=(hashL Sha.first (List.replicate 64 0) 0 0:List Value).toArray) (vr (.agg (hashL Sha.first (List.replicate 64 0) 0 0).toArray) rfl) fun a h n b i o=> ?_)))))))))))))
  have hE:=hE.trans i
  have j:=b;clear b
  have p:a<h.heap.size:=by omega
  refine oA rfl (oZ (tN (f _ _ (As (Ao (fn:=Tryd.f38) _ rfl [PQ a 0] (PQ a 0) rfl ⟨rfl,trivial⟩ ?_)))))
  exact⟨_,rfl,by omega,⟨_,_,Sha.at_nil,j⟩,hE⟩

theorem IK(w:World)(hG:Laid w)(g:Nat)(hh:1<g)(p:List UInt8)(hH:HashAt w g p)(v:Value)(c:List UInt8)(hc:RB w v c)(hv:v.ownBlock≠some g)(hb:p.length+c.length<4611686018427387904):
    Calls Tryd.prog 39 #[PQ g 0,v] w fun e w' =>e = .returned (.tuple #[])∧HashAt w' g (p++c)∧w.grownBy w' (some g):=by
  obtain⟨s,r,hat,aa⟩:=hH
  have hs:=hat.slen
  have hr:=hat.len
  obtain⟨f,hf⟩:∃f,f=p.length%64:=⟨_,rfl⟩
  rw[←hf]at aa
  obtain⟨N,hN⟩:∃N,p.length+c.length=N:=⟨_,rfl⟩
  have hgr:w.grownBy w (some g):=World.grownBy.refl _ _
  refine AA (args:= [PQ g 0,v]) Tryd.func39 rfl 60 rfl (Nat.le_of_ble_eq_true rfl) ?_
  intro ay hb
  have q:ay 0=(PQ g 0:Value):=hb.get 0
  have t:ay 1=(v:Value):=hb.get 1
  clear hb
  refine sk fun K1 a7=>(sk fun K2 a8=>(wt (oM rfl (oS rfl (Yk.eqlNil MF q (oZ (tN (a8 _ _ (Ar (vr (.bool (false)) rfl) (Ah (tN (a7 _ _ (sk fun K3 a9=>(wt (oM rfl (oS rfl (Yk.nilCheck q (oS rfl (Yk.fieldAt GE (vr (PQ g 0) rfl) (oS rfl (Yk.cell1 NA rfl (vr (PQ g 73) rfl) (Ai aa (EL hs hr)) ?_)))))))))))))))))))))
  refine oM rfl (oS rfl (Yk.lenRB DT (RB.of hc t) (oS rfl (Yk.bin (xv:=NI p.length) (yv:=NI c.length) rfl rfl rfl (Ak _ _ _ (by omega)) (oS rfl (Yk.nilCheck q (oS rfl (Yk.fieldAt GE (vr (PQ g 0) rfl) (oS rfl (Yk.storeC (i:=73) (v:=NI ((p.length)+(c.length))) (vr (PQ g 73) rfl) (vr (NI ((p.length)+(c.length))) rfl) aa (by rw[Cm hs hr];omega) JE rfl rfl fun w4 az ao ci=> ?_))))))))))
  clear aa
  have hc:=hc.kept ao (.inr hv)
  have hG:Laid w4:=Laid.kept hG ao hh
  have hgr:w.grownBy w4 (some g):=Bu hgr ao (fun _ e=> .inl e)
  have aa:=az;clear az
  have cj:=bl aa
  refine AH [(0,PQ g 0),(1,v),(6, .bool (false))] ⟨q,t,rfl,trivial⟩ fun ck ⟨q,t,z,_⟩=> ?_
  have aa:w4.heap[g]? =some (.cells (hashL s r f N).toArray 125 (0,0)):=AZ aa (by rw[Gh hs hr,hN])
  refine tN (a9 _ _ (Aj (AX (fun(ρ:Aq) (wz:World)=>∃m:Nat,∃s1:List UInt32,∃r1:List UInt8,∃f1:Nat,∃v1:Value,ρ 0=(PQ g 0:Value)∧ρ 6=(.bool (false):Value)∧ρ 1=(v1:Value)∧Laid wz∧w.grownBy wz (some g)∧RB wz v1 (c.drop m)∧wz.heap[g]? =some (.cells (hashL s1 r1 f1 N).toArray 125 (0,0))∧(m≤c.length)∧(Sha.At (p++c.take m) s1 r1)∧(f1=(p++c.take m).length%64)∧(OB v1 g)∧True) (fun ρ _=>Bz (ρ 1)) ⟨0,s,r,f,v,q,z,t,hG,hgr,hc,AZ aa (rfl),by omega,by simpa using hat,by simpa using hf,hv,trivial⟩ ?_)))
  clear hc
  clear aa
  clear hG hgr
  rintro a0 ah ⟨m,s1,r1,f1,v1,q,z,t,hG,hgr,u,hb0l,hm,hat1,hf1,hv1,-⟩
  have q1:=t
  have ql1:=u.sliceLen
  have y:=hat1.slen
  have ap:=hat1.len
  have hf64:f1<64:=by omega
  refine sk fun cl ba=>(sk fun cm bb=>(wt (oM rfl (oS rfl (Yk.lenRB DT (RB.of u t) (oS rfl (Yk.eqI (a:=((c.drop m:List UInt8).length:Nat)) (b:=(0:Nat)) rfl rfl (Bm _ _ _ _) (oZ (tN (bb _ _ ?_))))))))))
  refine AO ((0)<((c.drop m:List UInt8).length)) (vr (.bool (decide ((0)<((c.drop m:List UInt8).length)))) rfl) (fun hc1' => ?_) (fun hc1' => ?_)
  · obtain⟨X,hX⟩:∃X,X=(c.drop m).take (64-f1):=⟨_,rfl⟩
    obtain⟨n,hn⟩:∃n,n=X.length:=⟨_,rfl⟩
    have hxl:X.length=n:=hn.symm
    have hcl:(c.drop m).length=c.length-m:=List.length_drop
    have hnm:Nat.min (c.drop m).length (64-f1)=n:=by rw[hn,hX,List.length_take];exact Nat.min_comm _ _
    have cn:0<n:=by rw[←hnm];exact Nat.lt_min.2 ⟨hc1',by omega⟩
    have co:f1+n≤64:=by(have:n≤64-f1:=by rw[←hnm];exact Nat.min_le_right _ _);omega
    have bc:n≤(c.drop m).length:=by rw[←hnm];exact Nat.min_le_left _ _
    have hXn:X=(c.drop m).take n:=by rw[hX,←hnm];simp[List.take_eq_take_iff];exact Nat.min_comm _ _
    have htk:(p++c.take m)++X=p++c.take (m+n):=by rw[List.append_assoc,hXn,List.take_add]
    
    refine Ah (tN (ba _ _ (Aj (sk fun cp bd=> ?_))))
    refine Jt 9 [Is (PQ g 0),Is (PQ g 0),Is (PQ g 8),Is (PQ g 0),Is (PQ g 0),Is (PQ g 72),Is (NI f1),Is (.slice (some ⟨g,8+f1,none⟩) (64-f1) (64-f1)),Is (v1),fun x w' =>x=NI n∧w'.heap[g]? =some (.cells (hashL s1 (r1.take f1++X++r1.drop (f1+n)) f1 N).toArray 125 (0,0))∧ah.grownBy w' (some g),fun x w' =>x=NI n∧w'.heap[g]? =some (.cells (hashL s1 (r1.take f1++X++r1.drop (f1+n)) f1 N).toArray 125 (0,0))∧ah.grownBy w' (some g)] (by kernel_rfl) [19,20,21,22,23,24,25,26,27,28,4] (by kernel_rfl) (by kernel_rfl) (by kernel_rfl) rfl (FF ⟨(fun _ _ _ hp he=>⟨hp.1,eb he hp.2.1,Bu hp.2.2 he.grown (fun _ e=>by cases e)⟩),(fun _ _ _ hp he=>⟨hp.1,eb he hp.2.1,Bu hp.2.2 he.grown (fun _ e=>by cases e)⟩),trivial⟩) (FF trivial) ?be ?hQ1003
    case be=>
      refine⟨?_,?_,?_,?_,?_,?_,?_,?_,?_,?_,?_,trivial⟩
      · refine Aa rfl fun σ w1 hC h=> ?_
        have e0:=(Ab (h 0 (by decide))).trans q
        have hC:Ext _ w1:=hC
        exact Yk.move e0 ⟨Ext.refl _,rfl⟩
      · refine Aa rfl fun σ w1 hC h=> ?_
        have bf:=Ab (h 19 (by decide))
        have hC:Ext _ w1:=hC
        exact Yk.nilCheck bf ⟨Ext.refl _,rfl⟩
      · refine Aa rfl fun σ w1 hC h=> ?_
        have bg:=Ab (h 20 (by decide))
        have hC:Ext _ w1:=hC
        exact Yk.fieldAt GF bg ⟨Ext.refl _,rfl⟩
      · refine Aa rfl fun σ w1 hC h=> ?_
        have e0:=(Ab (h 0 (by decide))).trans q
        have hC:Ext _ w1:=hC
        exact Yk.move e0 ⟨Ext.refl _,rfl⟩
      · refine Aa rfl fun σ w1 hC h=> ?_
        have bh:=Ab (h 22 (by decide))
        have hC:Ext _ w1:=hC
        exact Yk.nilCheck bh ⟨Ext.refl _,rfl⟩
      · refine Aa rfl fun σ w1 hC h=> ?_
        have bi:=Ab (h 23 (by decide))
        have hC:Ext _ w1:=hC
        exact Yk.fieldAt DH bi ⟨Ext.refl _,rfl⟩
      · refine Aa rfl fun σ w1 hC h=> ?_
        have bj:=Ab (h 24 (by decide))
        have hC:Ext _ w1:=hC
        exact Yk.cell1 NA rfl bj (Ai (eb hC hb0l) (F1 y ap)) ⟨Ext.refl _,rfl⟩
      · refine Aa rfl fun σ w1 hC h=> ?_
        have bk:=Ab (h 21 (by decide))
        have bm:=Ab (h 25 (by decide))
        have hC:Ext _ w1:=hC
        exact Yk.sliceArrL HT Ls bk bm (by omega) ⟨Ext.refl _,rfl⟩
      · refine Aa rfl fun σ w1 hC h=> ?_
        have e1:=(Ab (h 1 (by decide))).trans t
        have hC:Ext _ w1:=hC
        exact Yk.move e1 ⟨Ext.refl _,rfl⟩
      · refine Aa rfl fun σ w1 hC h=> ?_
        have bn:=Ab (h 26 (by decide))
        have bo:=Ab (h 27 (by decide))
        have hC:Ext _ w1:=hC
        refine Yk.copyB (.tmp 26) (.tmp 27) (o:=8+f1) DT O3 bn (l:=c.drop m) (by show RB w1 (σ 27) _;rw[bo];exact u.keep hC) (eb hC hb0l) (by rw[hnm];simp only[List.size_toArray,Cm y ap];omega) ?_
        refine⟨trivial,by rw[hnm];rfl,?_,?_⟩
        · rw[hnm,←hX,←hxl]
          have:=Lw (f:=f1) (n:=N) (at_:=f1) (x:=X) y ap (by omega)
          rw[this]
          exact setRow_heap w1 g _ _ _ _ (eb hC hb0l)
        · exact Bu (Js hC.grown (some g)) ⟨rfl,rfl,rfl,by simp,fun k _ hk=>setRow_other w1 g k _ (fun e=>hk (by rw[e]))⟩ (fun _ e=> .inl e)
      · refine Aa rfl fun σ w1 hC h=> ?_
        have bp:(fun x w' =>x=NI n∧w'.heap[g]? =some (.cells (hashL s1 (r1.take f1++X++r1.drop (f1+n)) f1 N).toArray 125 (0,0))∧ah.grownBy w' (some g)) (σ 28) w1:=h 28 (by decide)
        exact Yk.assign rfl ⟨Ext.refl _,bp⟩
    intro a1 ai he hf
    obtain⟨-,-,-,-,-,-,-,-,-,-,k4,-⟩:=hf
    obtain⟨q,t,z,-⟩:=he.hold [(0,_),(1,_),(6,_)] ⟨q,t,z,trivial⟩ rfl
    clear he
    have k4:(fun x w' =>x=NI n∧w'.heap[g]? =some (.cells (hashL s1 (r1.take f1++X++r1.drop (f1+n)) f1 N).toArray 125 (0,0))∧ah.grownBy w' (some g)) (a1 4) ai:=k4
    obtain⟨cq,T4⟩:∃v,a1 4=v:=⟨_,rfl⟩
    rw[T4]at k4
    have bq:=k4;clear k4
    obtain⟨hv4,a2,ar⟩:=bq
    rw[hv4]at T4
    have hG:Laid ai:=Laid.kept hG ar hh
    have hgr:w.grownBy ai (some g):=Bu hgr ar (fun _ e=> .inl e)
    have u:=u.kept ar (.inr hv1)
    clear hb0l
    have j:=a2;clear a2
    obtain⟨r2,aj⟩:∃r2,r2=r1.take f1++X++r1.drop (f1+n):=⟨_,rfl⟩
    have hr2l:r2.length=64:=by rw[aj];simp only[List.length_append,List.length_take,List.length_drop];omega
    have j:ai.heap[g]? =some (.cells (hashL s1 r2 f1 N).toArray 125 (0,0)):=AZ j (by rw[←aj])
    refine tN (bd _ _ (sk fun cr br=>(wt (oM rfl (oS rfl (Yk.nilCheck q (oS rfl (Yk.fieldAt DH (vr (PQ g 0) rfl) (oS rfl (Yk.cell1 NA rfl (vr (PQ g 72) rfl) (Ai j (F1 y hr2l)) (oM rfl (oS rfl (Yk.bin (xv:=NI f1) (yv:=NI n) rfl T4 rfl (Ak _ _ _ (by omega)) (oS rfl (Yk.nilCheck q (oS rfl (Yk.fieldAt DH (vr (PQ g 0) rfl) (oS rfl (Yk.storeC (i:=72) (v:=NI ((f1)+(n))) (vr (PQ g 72) rfl) (vr (NI ((f1)+(n))) rfl) j (by rw[Cm y hr2l];omega) JE rfl rfl fun au a3 av ct=> ?_)))))))))))))))))))
    have hG:Laid au:=Laid.kept hG av hh
    have hgr:w.grownBy au (some g):=Bu hgr av (fun _ e=> .inl e)
    have u:=u.kept av (.inr hv1)
    clear j
    have j:=a3;clear a3
    have cu:=bl j
    refine oZ ?_
    have j:au.heap[g]? =some (.cells (hashL s1 r2 (f1+n) N).toArray 125 (0,0)):=AZ j (Gg y hr2l)
    refine tN (br _ _ (sk fun cv bs=>(wt (oM rfl (oM rfl (oS rfl (Yk.sliceLo (xs:=c.drop m) (l:=n) DT Ls t u T4 (bc) fun ae ac ha30=> ?_)))))))
    have ak:OB ae g:=fun e=>hv1 (ha30.symm.trans e)
    refine oA rfl (oZ (tN (bs _ _ (sk fun cw bt=>(wt (oM rfl (oS rfl (Yk.nilCheck q (oS rfl (Yk.fieldAt DH (vr (PQ g 0) rfl) (oS rfl (Yk.cell1 NA rfl (vr (PQ g 72) rfl) (Ai j (F1 y hr2l)) (oS rfl (Yk.eqI (a:=((f1+n):Nat)) (b:=(64:Nat)) rfl rfl (Br _ _ _ _) (oZ (tN (bt _ _ ?_)))))))))))))))))
    refine AO (((f1+n):Nat)=(64)) (vr (.bool (decide (((f1+n):Nat)=(64)))) rfl) (fun bu=> ?_) (fun bu=> ?_)
    · have hr2f:r2=r1.take f1++X:=by rw[aj,List.drop_of_length_le (by omega),List.append_nil]
      obtain⟨R,hR⟩:∃R,R=Sha.rounds s1 r2:=⟨_,rfl⟩
      have HRl:R.length=8:=by rw[hR,Sha.rounds_length _ _ y]
      have hatF:Sha.At ((p++c.take m)++X) R r2:=by rw[hR,hr2f,hf1];exact hat1.fill X (by omega)
      have hfF:0=((p++c.take m)++X).length%64:=by rw[List.length_append];omega
      refine sk fun cx bv=> ?_
      refine Dg 12 (fun(a_ b_:World)=>b_.heap[g]? =some (.cells ((cellsU R).toList++(hashL s1 r2 (f1+n) N).drop (cellsU R).size).toArray 125 (0,0))∧a_.grownBy b_ (some g)∧b_.heap.size=a_.heap.size) [Is (PQ g 0),Is (PQ g 0),Is (PQ g 0),Is (PQ g 0),Is (.agg (cellsU s1)),Is (PQ g 0),Is (PQ g 0),Is (PQ g 8),Is (.slice (some ⟨g,8,none⟩) 64 64),Is (.agg (cellsU R)),Is (PQ g 0),Is (PQ g 0),(fun _ _=>True)] (by kernel_rfl) [45,46,47,48,49,50,51,52,53,54,55,56] (by kernel_rfl) (by kernel_rfl) (by kernel_rfl) rfl (Ct ⟨Stab.any,trivial⟩) (Ct ⟨Stab.any,trivial⟩) ?bw ?hQ2007
      case bw=>
        refine⟨?_,?_,?_,?_,?_,?_,?_,?_,?_,?_,?_,?_,?_,trivial⟩
        · refine Aa rfl fun σ w1 hC h=> ?_
          have e0:=(Ab (h 0 (by decide))).trans q
          have hC:Ext _ w1:=hC
          exact Yk.move e0 ⟨Ext.refl _,rfl⟩
        · refine Aa rfl fun σ w1 hC h=> ?_
          have e0:=(Ab (h 0 (by decide))).trans q
          have hC:Ext _ w1:=hC
          exact Yk.move e0 ⟨Ext.refl _,rfl⟩
        · refine Aa rfl fun σ w1 hC h=> ?_
          have bx:=Ab (h 46 (by decide))
          have hC:Ext _ w1:=hC
          exact Yk.nilCheck bx ⟨Ext.refl _,rfl⟩
        · refine Aa rfl fun σ w1 hC h=> ?_
          have bz:=Ab (h 47 (by decide))
          have hC:Ext _ w1:=hC
          exact Yk.fieldAt GG bz ⟨Ext.refl _,rfl⟩
        · refine Aa rfl fun σ w1 hC h=> ?_
          have b0:=Ab (h 48 (by decide))
          have hC:Ext _ w1:=hC
          exact Yk.loadPart (cs:=s1.map fun x=>U x) b0 (Hb (eb hC j)) Bf rfl (by rw[List.length_map,y];exact DQ) ⟨Ext.refl _,rfl⟩
        · refine Aa rfl fun σ w1 hC h=> ?_
          have e0:=(Ab (h 0 (by decide))).trans q
          have hC:Ext _ w1:=hC
          exact Yk.move e0 ⟨Ext.refl _,rfl⟩
        · refine Aa rfl fun σ w1 hC h=> ?_
          have b1:=Ab (h 50 (by decide))
          have hC:Ext _ w1:=hC
          exact Yk.nilCheck b1 ⟨Ext.refl _,rfl⟩
        · refine Aa rfl fun σ w1 hC h=> ?_
          have b2:=Ab (h 51 (by decide))
          have hC:Ext _ w1:=hC
          exact Yk.fieldAt GF b2 ⟨Ext.refl _,rfl⟩
        · refine Aa rfl fun σ w1 hC h=> ?_
          have b3:=Ab (h 52 (by decide))
          have hC:Ext _ w1:=hC
          exact Yk.sliceArr HT Ls b3 ⟨Ext.refl _,rfl⟩
        · refine Aa rfl fun σ w1 hC h=> ?_
          have b4:=Ab (h 49 (by decide))
          have b5:=Ab (h 53 (by decide))
          have hC:Ext _ w1:=hC
          refine Yk.callA2 MG b4 b5 ((Lv _ (hG.keep hC) s1 y _ r2 (OF y hr2l (eb hC j)) hr2l).mono ?_)
          rintro e w2 ⟨rfl,hx⟩
          exact⟨_,rfl,hx,by rw[hR];rfl⟩
        · refine Aa rfl fun σ w1 hC h=> ?_
          have b7:=Ab (h 45 (by decide))
          have hC:Ext _ w1:=hC
          exact Yk.nilCheck b7 ⟨Ext.refl _,rfl⟩
        · refine Aa rfl fun σ w1 hC h=> ?_
          have b8:=Ab (h 55 (by decide))
          have hC:Ext _ w1:=hC
          exact Yk.fieldAt GG b8 ⟨Ext.refl _,rfl⟩
        · refine Aa rfl fun σ w1 hC h=> ?_
          have b9:=Ab (h 56 (by decide))
          have ca:=Ab (h 54 (by decide))
          have hC:Ext _ w1:=hC
          exact Yk.storeHd b9 ca (eb hC j) (by rw[Fw,HRl,Cm y hr2l];omega) (by rw[Fw,HRl];exact DQ) (Do _) fun w2 h1 h2 h3=>⟨⟨h1,h2,h3⟩,trivial⟩
      intro cy a4 aw ag cb he hf
      obtain⟨-,-,-,-,-,-,-,-,-,-,-,-,-⟩:=hf
      obtain⟨q,t,T4,z,-⟩:=he.hold [(0,_),(1,ae),(4,_),(6,_)] ⟨q,rfl,T4,z,trivial⟩ rfl
      clear he
      have hG:Laid a4:=(hG.keep ag)
      have hgr:w.grownBy a4 (some g):=Bu hgr ag.grown (fun _ e=>by cases e)
      have u:=u.keep ag
      have j:=eb ag j
      have ac:=ac.keep ag
      obtain⟨a5,al,cz⟩:=cb
      have hG:Laid aw:=Laid.kept hG al hh
      have hgr:w.grownBy aw (some g):=Bu hgr al (fun _ e=> .inl e)
      have u:=u.kept al (.inr hv1)
      clear j
      have ac:=ac.kept al (.inr ak)
      have j:=a5;clear a5
      have j:aw.heap[g]? =some (.cells (hashL R r2 (f1+n) N).toArray 125 (0,0)):=AZ j (by rw[Fw,HRl];exact Kw y)
      refine tN (bv _ _ (wt (oM rfl (oS rfl (Yk.nilCheck q (oS rfl (Yk.fieldAt DH (vr (PQ g 0) rfl) (oS rfl (Yk.storeC (i:=72) (v:=NI 0) (vr (PQ g 72) rfl) (vr (NI 0) rfl) j (by rw[Cm HRl hr2l];omega) JE rfl rfl fun ax a6 am c0=> ?_)))))))))
      have hG:Laid ax:=Laid.kept hG am hh
      have hgr:w.grownBy ax (some g):=Bu hgr am (fun _ e=> .inl e)
      have u:=u.kept am (.inr hv1)
      have ac:=ac.kept am (.inr ak)
      clear j
      have j:=a6;clear a6
      have c1:=bl j
      refine AH [(0,PQ g 0),(1,ae),(4,NI n),(6, .bool (false))] ⟨q,t,T4,z,trivial⟩ fun cc ⟨q,t,T4,z,_⟩=> ?_
      have j:ax.heap[g]? =some (.cells (hashL R r2 0 N).toArray 125 (0,0)):=AZ j (Gg HRl hr2l)
      refine bN (tN (And.intro ⟨m+n,R,r2,0,ae,q,z,t,hG,hgr,(show RB _ _ _ from(by rw[←List.drop_drop];exact ac)),AZ j (rfl),by omega,by rw[←htk];exact hatF,by rw[←htk];exact hfF,ak,trivial⟩ ?_))
      show Bz (cc 1)<Bz (a0 1)
      rw[t,q1]
      have q3:=ac.sliceLen
      have q4:=ql1
      rw[q3,q4]
      simp only[List.length_drop]
      omega
    have hatP:Sha.At ((p++c.take m)++X) s1 r2:=by rw[aj,←hxl,hf1];exact hat1.put X (by omega)
    have hfP:f1+n=((p++c.take m)++X).length%64:=by rw[List.length_append];omega
    refine Ah (bN (Kq [(0,PQ g 0),(1,ae),(4,NI n),(6, .bool (false))] ⟨q,rfl,T4,z,trivial⟩ fun cd ⟨q,t,T4,z,_⟩=>(tN (And.intro ⟨m+n,s1,r2,f1+n,ae,q,z,t,hG,hgr,(show RB _ _ _ from(by rw[←List.drop_drop];exact ac)),AZ j (rfl),by omega,by rw[←htk];exact hatP,by rw[←htk];exact hfP,ak,trivial⟩ ?_))))
    show Bz (cd 1)<Bz (a0 1)
    rw[t,q1]
    have q3:=ac.sliceLen
    have q4:=ql1
    rw[q3,q4]
    simp only[List.length_drop]
    omega
  have hcF:=hc1'
  refine AJ (Ag (Ag (Ap (Fg (fn:=Tryd.f39) [] rfl [] (.tuple #[]) rfl trivial ?_))))
  have hml:m=c.length:=by have:=hcF;simp at this;omega
  subst hml
  refine⟨rfl,⟨s1,r1,by simpa using hat1,?_⟩,hgr⟩
  have e1:f1=(p++c).length%64:=by simpa using hf1
  have e2:N=(p++c).length:=by rw[←hN,List.length_append]
  rw[←e1,←e2]
  exact hb0l
open Go.RowKit
set_option maxRecDepth 100000
theorem MH(s:List UInt32)(r:List UInt8)(f n:Nat):∀v∈(hashL s r f n).toArray.toList,v.oneCell' =true:=by
 intro v hv
 simp[hashL,Lib.byteCells]at hv
 rcases hv with ⟨_,_,rfl⟩ | ⟨_,_,rfl⟩ | rfl | rfl <;> rfl
namespace Sha
def outs(s:List UInt32)(i:Nat):List UInt8:=(out s).take (4*i)++List.replicate (32-4*i) 0
theorem out_length:∀s:List UInt32,(out s).length=4*s.length
 | []=>rfl
 | x :: s=>by
  have:=out_length s
  unfold out at *
  rw[List.flatMap_cons,List.length_append,this]
  simp
  omega
theorem outs_length(s:List UInt32)(hs:s.length=8)(i:Nat)(hi:i≤8):(outs s i).length=32:=by
 unfold outs
 rw[List.length_append,List.length_take,List.length_replicate,out_length,hs]
 omega
theorem outs_all(s:List UInt32)(hs:s.length=8):outs s 8=out s:=by
 unfold outs
 rw[List.take_of_length_le (by rw[out_length,hs];exact Nat.le_refl _)]
 simp
theorem outs_step(s:List UInt32)(hs:s.length=8)(i:Nat)(hi:i<8):
  ((((outs s i).set (4*i) (s.getD i 0>>>24).toUInt8).set (4*i+1) (s.getD i 0>>>16).toUInt8).set (4*i+2) (s.getD i 0>>>8).toUInt8).set (4*i+3) (s.getD i 0).toUInt8=outs s (i+1):=by
 match s,hs with
 | [a,b,c,d,e,f,g,h],_=>
  have:i=0∨i=1∨i=2∨i=3∨i=4∨i=5∨i=6∨i=7:=by omega
  rcases this with rfl | rfl | rfl | rfl | rfl | rfl | rfl | rfl <;> rfl
theorem sum_length(p:List UInt8):(sum p).length=32:=by
 unfold sum
 rw[out_length,blocks_length _ _ _ rfl]
end Sha
theorem Hd:(Tryd.prog.info? 125).map (·.size)=some 74:=by kernel_rfl
theorem LI:∃fs,Tryd.prog.underlying 125=some (.struct fs):=Eg (by kernel_rfl)
theorem LJ{d:Option Tmp}{ty:TypeId}{pos:String}{af:Array Edge}{gd:Option (Nat × Bool)}(σ:Operand→Value)(w:World):(execOp σ ⟨d, .alloc 125,ty,pos,af,gd⟩).run Tryd.prog w = .ok (.value (PQ w.heap.size 0)) (w.alloc (.cells (hashL (List.replicate 8 0) (List.replicate 64 0) 0 0).toArray 125)):=by kernel_rfl
theorem MJ:A2 Tryd.prog 39:=fun _ _=>by kernel_rfl
theorem ML(w:World)(hG:Laid w)(g:Nat)(p:List UInt8)(hH:HashAt w g p)(hp:p.length<1152921504606846976):
  Calls Tryd.prog 40 #[PQ g 0] w fun e w' =>e = .returned (AB (Sha.sum p))∧Ext w w' :=by
 obtain⟨s,r,hat,c⟩:=hH
 have hs:=hat.slen
 have hr:=hat.len
 obtain⟨f,hf⟩:∃f,f=p.length%64:=⟨_,rfl⟩
 obtain⟨N,hN⟩:∃N,p.length=N:=⟨_,rfl⟩
 rw[←hf,hN]at c
 have hw2:1<w.heap.size:=hG.two
 refine AA (args:= [PQ g 0]) Tryd.func40 rfl 85 rfl (Nat.le_of_ble_eq_true rfl) ?_
 intro ca hb
 have q:ca 0=(PQ g 0:Value):=hb.get 0
 clear hb
 have hE:=Ext.refl w
 refine sk fun K1 cb=>(wt (oS rfl (Yk.alloc (cs:=(Lib.byteCells (List.replicate 32 0)).toArray) NH fun n2 w3 cc bk bm dr=> ?_)))
 have ds:=AT (bl c) cc
 have c:=eb bm c
 have hE:=hE.trans bm
 have h:=bk;clear bk
 have dt:n2<w3.heap.size:=by omega
 refine oZ (tN (cb _ _ (sk fun du cd=>(sk fun dv ce=>(wt (oM rfl (oS rfl (Yk.eqlNil MF q (oZ (tN (ce _ _ (Ar (vr (.bool (false)) rfl) (Ah (tN (cd _ _ (sk fun dw cf=>(wt (oM rfl (oS rfl (Yk.nilCheck q ?_))))))))))))))))))))
 refine oS rfl (Yk.loadAll (vr (PQ g 0) rfl) c (LI).choose_spec rfl (by rw[List.size_toArray,Cm hs hr];exact Hd) (oS rfl (Yk.alloc (cs:=(hashL (List.replicate 8 0) (List.replicate 64 0) 0 0).toArray) LJ fun y cg bn bo a9 dx=> ?_)))
 have m:=Ext.refl w3
 have dy:=hE
 have bp:=hE.size
 have dz:=AT (bl c) bn
 have d0:=AT (bl h) bn
 have c:=eb a9 c
 have hE:=hE.trans a9
 have h:=eb a9 h
 have m:=m.trans a9
 have o:=bo;clear bo
 have d1:y<cg.heap.size:=by omega
 refine oS rfl (Yk.storeAll (vr (PQ y 0) rfl) (vr (.agg (hashL s r f N).toArray) rfl) o (by rw[List.size_toArray,List.size_toArray,Cm hs hr];rfl) (by rw[List.size_toArray,Cm hs hr];exact Hd) (MH s r f N) fun aq bq ba d2=> ?_)
 have c:=kb ba c (by omega)
 have hE:=Ac hE ba (Nat.le_trans bp (by omega))
 have h:=kb ba h (by omega)
 have m:=Ac m ba (Nat.le_trans (Nat.le_refl _) (by omega))
 clear o
 have o:=bq;clear bq
 have d3:=bl o
 refine oZ (tN (cf _ _ (sk fun d4 ch=>(wt (oS rfl (Yk.lit1 (b:=128) Mk (vr (B8 (128)) rfl) fun a6 d5 ap=> ?_))))))
 have t:=Ext.refl aq
 have d6:=hE
 have d7:=m
 have br:=hE.size
 have bs:=m.size
 have ci:OB a6 g:=BO ap.own (bl c)
 have cj:OB a6 n2:=BO ap.own (bl h)
 have ck:OB a6 y:=BO ap.own (bl o)
 have c:=eb ap.ext c
 have hE:=hE.trans ap.ext
 have h:=eb ap.ext h
 have m:=m.trans ap.ext
 have o:=eb ap.ext o
 have t:=t.trans ap.ext
 have bt:=ap.own;clear ap
 refine oA rfl (AH [(0,PQ g 0),(2,PQ n2 0),(3,PQ y 0),(4,a6),(11, .bool (false))] ⟨q,rfl,rfl,rfl,rfl,trivial⟩ fun d8 ⟨q,z,T3,u,ac,_⟩=>(tN (ch _ _ (sk fun d9 cl=>(Aj (AX (fun(ρ:Aq) (wz:World)=>∃k:Nat,∃v4:Value,ρ 0=(PQ g 0:Value)∧ρ 2=(PQ n2 0:Value)∧ρ 3=(PQ y 0:Value)∧ρ 11=(.bool (false):Value)∧ρ 4=(v4:Value)∧wz.heap[g]? =some (.cells (hashL s r f N).toArray 125 (0,0))∧Ext w wz∧wz.heap[n2]? =some (.cells (Lib.byteCells (List.replicate 32 0)).toArray 38 (0,0))∧Ext w3 wz∧wz.heap[y]? =some (.cells (hashL s r f N).toArray 125 (0,0))∧Ext aq wz∧wz.ownsRow aq.heap.size 5 1 v4 (128 :: List.replicate k 0:List UInt8).length (Lib.byteCells (128 :: List.replicate k 0))∧(k≤(119-N%64)%64)∧(OB v4 g)∧(OB v4 n2)∧(OB v4 y)∧True) (fun ρ _=>65-Bz (ρ 4)) ⟨0,a6,q,z,T3,ac,u,c,hE,h,m,o,t,BI bt (rfl),Nat.zero_le _,ci,cj,ck,trivial⟩ ?_))))))
 clear bt
 clear c hE h m o t
 rintro cm bu ⟨k,v4,q,z,T3,ac,u,c,hE,h,m,o,t,ho_v4,hk,hap_v4_g,hap_v4_n2,hap_v4_n14,-⟩
 have q4:=u
 have ql4:=CV ho_v4
 refine sk fun ea cn=>(sk fun ec co=>(wt (oM rfl (oS rfl (Yk.nilCheck q (oS rfl (Yk.fieldAt GE (vr (PQ g 0) rfl) (oS rfl (Yk.cell1 NA rfl (vr (PQ g 73) rfl) (Ai c (EL hs hr)) (oM rfl (oS rfl (Yk.lenRB DT (RB.of (RB.ofOwn ho_v4) u) (oS rfl (Yk.bin (xv:=NI N) (yv:=NI ((128 :: List.replicate k 0:List UInt8).length)) rfl rfl rfl (Ak _ _ _ (by simp;omega)) (oS rfl (Yk.bin (xv:=NI ((N)+((128 :: List.replicate k 0:List UInt8).length))) (yv:=NI 64) rfl rfl rfl (FH _ _ _ (by omega)) (oS rfl (Yk.eqI (a:=(((N)+((128 :: List.replicate k 0:List UInt8).length))%(64):Nat)) (b:=(56:Nat)) rfl rfl (Dn _ _ _ _) (oZ (tN (co _ _ ?_)))))))))))))))))))))
 refine AO ((((N)+((128 :: List.replicate k 0:List UInt8).length))%(64):Nat)≠(56)) (vr (.bool (decide ((((N)+((128 :: List.replicate k 0:List UInt8).length))%(64):Nat)≠(56)))) rfl) (fun bg=> ?_) (fun bg=> ?_)
 ·refine Ah (tN (cn _ _ (Aj (wt (oM rfl (oS rfl (Yk.lit1 (b:=0) Mk (vr (B8 (0)) rfl) fun av cp ag=> ?_)))))))
  have bh:=Ext.refl bu
  have ed:=hE
  have ee:=m
  have ef:=t
  have eg:=hE.size
  have eh:=m.size
  have ei:=t.size
  have ej:OB av g:=BO ag.own (bl c)
  have el:OB av n2:=BO ag.own (bl h)
  have em:OB av y:=BO ag.own (bl o)
  have bv:Ae v4 av:=A4 ho_v4 ag.own
  have en:Ae av v4:=A0 ho_v4 ag.own
  have c:=eb ag.ext c
  have hE:=hE.trans ag.ext
  have h:=eb ag.ext h
  have m:=m.trans ag.ext
  have o:=eb ag.ext o
  have t:=t.trans ag.ext
  have ho_v4:=Stab.own _ _ _ _ _ _ _ _ ho_v4 ag.ext
  have bh:=bh.trans ag.ext
  have bb:=ag.own;clear ag
  refine oS rfl (Yk.appendRB _ _ aq.heap.size (.int .u8 0) DT FW rfl DT (128 :: List.replicate k 0) ([(0:UInt8)]) (BB ho_v4 u) (RB.of (RB.ofOwn bb) (vr av rfl)) (by simp;omega) t.size fun aw cq bw ak=> ?_)
  have ak:Grew cp cq v4 aw:= .eqv u ak
  have cr:OB aw g:=Ax ak hap_v4_g (bl c)
  have ct:OB aw n2:=Ax ak hap_v4_n2 (bl h)
  have cu:OB aw y:=Ax ak hap_v4_n14 (bl o)
  have cv:Ae aw av:=Au ak bv bb
  have eo:Ae av aw:=fun k h1 h2=>cv k h2 h1
  have c:=AP c ak hap_v4_g
  have hE:=AC hE ak ho_v4 br
  have h:=AP h ak hap_v4_n2
  have m:=AC m ak ho_v4 bs
  have o:=AP o ak hap_v4_n14
  have t:=AC t ak ho_v4 (Nat.le_refl _)
  clear ho_v4
  clear bh
  have bb:=Bg bb ak bv
  refine oA rfl (AH [(0,PQ g 0),(2,PQ n2 0),(3,PQ y 0),(4,aw),(11, .bool (false))] ⟨q,z,T3,rfl,ac,trivial⟩ fun cw ⟨q,z,T3,u,ac,_⟩=>(bN (tN (And.intro ⟨k+1,aw,q,z,T3,ac,u,c,hE,h,m,o,t,BI bw (by simp[List.replicate_succ']),by simp at bg;omega,cr,ct,cu,trivial⟩ ?_))))
  show 65-Bz (cw 4)<65-Bz (cm 4)
  rw[u,q4]
  have qn:=CV bw
  rw[qn,ql4]
  simp
  omega
 refine AJ (Ag (Ag (Ap (tN (cl _ _ (sk fun ep cx=>(wt (oM rfl (oS rfl (Yk.nilCheck q (oS rfl (Yk.fieldAt GE (vr (PQ g 0) rfl) (oS rfl (Yk.cell1 NA rfl (vr (PQ g 73) rfl) (Ai c (EL hs hr)) (oS rfl (Yk.convI NA IJ (vr (NI N) rfl) (EZ (N) (by omega)) (oS rfl (Yk.bin (xv:= .int .u64 ((N:Nat):Int)) (yv:= .int .u64 ((8:Nat):Int)) rfl rfl rfl (KU _ _ _ (by omega)) (oA rfl (oZ ?_))))))))))))))))))))
 obtain⟨Z,hZ⟩:∃Z,Z=(128:UInt8) :: List.replicate k 0:=⟨_,rfl⟩
 have ho_v4:bu.ownsRow aq.heap.size 5 1 v4 (Z:List UInt8).length (Lib.byteCells (Z)):=(hZ.symm:128 :: List.replicate k 0=Z)▸ho_v4
 have hZl:Z.length=1+k:=by rw[hZ];simp;omega
 refine tN (cx _ _ (sk fun eq cy=>(sk fun er cz=>(wt (oM rfl (AH [(0,PQ g 0),(2,PQ n2 0),(3,PQ y 0),(4,v4),(5, .int .u64 (((N)*(8):Nat):Int)),(11, .bool (false)),(36,NI 0)] ⟨q,z,T3,u,rfl,ac,rfl,trivial⟩ fun es ⟨q,z,T3,u,T5,ac,ae,_⟩=>(tN (cz _ _ (Aj (AX (fun(ρ:Aq) (wz:World)=>∃i:Nat,∃v5:Value,ρ 0=(PQ g 0:Value)∧ρ 2=(PQ n2 0:Value)∧ρ 3=(PQ y 0:Value)∧ρ 5=(.int .u64 (((N)*(8):Nat):Int):Value)∧ρ 11=(.bool (false):Value)∧ρ 36=(NI i:Value)∧ρ 4=(v5:Value)∧wz.heap[g]? =some (.cells (hashL s r f N).toArray 125 (0,0))∧Ext w wz∧wz.heap[n2]? =some (.cells (Lib.byteCells (List.replicate 32 0)).toArray 38 (0,0))∧Ext w3 wz∧wz.heap[y]? =some (.cells (hashL s r f N).toArray 125 (0,0))∧Ext aq wz∧wz.ownsRow aq.heap.size 5 1 v5 (Z++(Sha.be64 (8*N)).take i:List UInt8).length (Lib.byteCells (Z++(Sha.be64 (8*N)).take i))∧(i≤8)∧(OB v5 g)∧(OB v5 n2)∧(OB v5 y)∧True) (fun ρ _=>8-(intOf (ρ 36)).toNat) ⟨0,v4,q,z,T3,T5,ac,ae,u,c,hE,h,m,o,t,BI ho_v4 (by simp),by omega,hap_v4_g,hap_v4_n2,hap_v4_n14,trivial⟩ ?_))))))))))
 clear ho_v4
 clear c hE h m o t
 rintro c0 bx ⟨i,v5,q,z,T3,T5,ac,ae,u,c,hE,h,m,o,t,n,hi,hap_v5_g,hap_v5_n2,hap_v5_n14,-⟩
 have q36:=ae
 have ql4:=CV n
 refine sk fun et c1=>(wt (oS rfl (Yk.eqI (a:=(i:Nat)) (b:=(8:Nat)) ae rfl (AN _ _ _ _) (oZ (tN (c1 _ _ (sk fun eu c2=> ?_)))))))
 refine AO ((i)<(8)) (vr (.bool (decide ((i)<(8)))) rfl) (fun bz=> ?_) (fun bz=> ?_)
 ·refine Ah (tN (c2 _ _ (sk fun ew c3=>(Aj (sk fun ex c4=>(wt (oM rfl (oA rfl (oZ (tN (c4 _ _ (wt (oM rfl (oM rfl (oM rfl (oS rfl (Yk.bin (xv:=NI 8) (yv:=NI i) rfl ae rfl (BG _ _ _ (by omega)) (oS rfl (Yk.bin (xv:=NI 56) (yv:=NI ((8)*(i))) rfl rfl rfl (Bj _ _ _ (by omega) (by omega)) ?_)))))))))))))))))))
  refine oS rfl (Yk.bin (xv:= .int .u64 (((N)*(8):Nat):Int)) (yv:=NI ((56)-((8)*(i)))) T5 rfl rfl (KW _ _ _ _ (by omega)) (oS rfl (Yk.convI IJ u5 (vr (.int .u64 ((((N)*(8))/2^((56)-((8)*(i))):Nat):Int)) rfl) (DX (((N)*(8))/2^((56)-((8)*(i))))) (oS rfl (Yk.lit1 (b:=UInt8.ofNat (((N)*(8))/2^((56)-((8)*(i))))) Mk (vr (B8 (UInt8.ofNat (((N)*(8))/2^((56)-((8)*(i)))))) rfl) fun ax c5 ah=> ?_)))))
  have bi:=Ext.refl bx
  have ey:=hE
  have ez:=m
  have e0:=t
  have e1:=hE.size
  have e2:=m.size
  have e3:=t.size
  have e4:OB ax g:=BO ah.own (bl c)
  have e5:OB ax n2:=BO ah.own (bl h)
  have e6:OB ax y:=BO ah.own (bl o)
  have b0:Ae v5 ax:=A4 n ah.own
  have e7:Ae ax v5:=A0 n ah.own
  have c:=eb ah.ext c
  have hE:=hE.trans ah.ext
  have h:=eb ah.ext h
  have m:=m.trans ah.ext
  have o:=eb ah.ext o
  have t:=t.trans ah.ext
  have n:=Stab.own _ _ _ _ _ _ _ _ n ah.ext
  have bi:=bi.trans ah.ext
  have bc:=ah.own;clear ah
  refine oS rfl (Yk.appendRB _ _ aq.heap.size (.int .u8 0) DT FW rfl DT (Z++(Sha.be64 (8*N)).take i) ([(UInt8.ofNat (((N)*(8))/2^((56)-((8)*(i)))):UInt8)]) (BB n u) (RB.of (RB.ofOwn bc) (vr ax rfl)) (by simp[Sha.be64];omega) t.size fun ay c6 c7 am=> ?_)
  have am:Grew c5 c6 v5 ay:= .eqv u am
  have c8:OB ay g:=Ax am hap_v5_g (bl c)
  have c9:OB ay n2:=Ax am hap_v5_n2 (bl h)
  have da:OB ay y:=Ax am hap_v5_n14 (bl o)
  have db:Ae ay ax:=Au am b0 bc
  have e8:Ae ax ay:=fun k h1 h2=>db k h2 h1
  have c:=AP c am hap_v5_g
  have hE:=AC hE am n br
  have h:=AP h am hap_v5_n2
  have m:=AC m am n bs
  have o:=AP o am hap_v5_n14
  have t:=AC t am n (Nat.le_refl _)
  clear n
  clear bi
  have bc:=Bg bc am b0
  refine oA rfl (oZ (bN (tN (c3 _ _ (wt (oS rfl (Yk.bin (xv:=NI i) (yv:=NI 1) ae rfl rfl (Ak _ _ _ (by omega)) (oM rfl (AH [(0,PQ g 0),(2,PQ n2 0),(3,PQ y 0),(4,ay),(5, .int .u64 (((N)*(8):Nat):Int)),(6,NI i),(11, .bool (false)),(36,NI ((i)+(1)))] ⟨q,z,T3,rfl,T5,ae,ac,rfl,trivial⟩ fun dc ⟨q,z,T3,u,T5,T6,ac,ae,_⟩=>(tN (And.intro ⟨i+1,ay,q,z,T3,T5,ac,ae,u,c,hE,h,m,o,t,BI c7 (by rw[Sha.be64_take _ _ bz,List.append_assoc,Nat.mul_comm N 8]),by omega,c8,c9,da,trivial⟩ ?_)))))))))))
  show 8-(intOf (dc 36)).toNat<8-(intOf (c0 36)).toNat
  rw[ae,q36]
  simp only[intOf,Int.toNat_natCast];omega
 obtain⟨Q,hQ⟩:∃Q,Q=Z++(Sha.be64 (8*N)).take i:=⟨_,rfl⟩
 have n:bx.ownsRow aq.heap.size 5 1 v5 (Q:List UInt8).length (Lib.byteCells (Q)):=(hQ.symm:Z++(Sha.be64 (8*N)).take i=Q)▸n
 have hQt:Q=Sha.tail p.length:=by simp at bg;rw[hQ,hZ,show i=8 by omega,show k=(119-p.length%64)%64 by omega,List.take_of_length_le (by simp[Sha.be64]),←hN];simp[Sha.tail]
 have hQl:Q.length≤100:=by rw[hQ];simp[Sha.be64];omega
 refine AJ (Ag (Ag (Ap (tN (cy _ _ (sk fun fa dd=>(wt (oM rfl (oS rfl (Yk.callA2 MJ T3 u ((IK _ (hG.keep hE) y (by omega) p ⟨s,r,hat,by rw[←hf,hN];exact o⟩ v5 Q (RB.ofOwn n) hap_v5_n14 (by omega)).mono ?_)))))))))))
 rintro e b1 ⟨rfl,⟨s2,r2,hat2,ad⟩,a7⟩
 refine⟨_,rfl,?_⟩
 have c:=kb a7 c (by omega)
 have hE:=Ac hE a7 (Nat.le_trans bp (by omega))
 have h:=kb a7 h (by omega)
 have m:=Ac m a7 (Nat.le_trans (Nat.le_refl _) (by omega))
 clear o
 clear t
 have n:=A7 n a7 hap_v5_n14
 have ao:=hat2.slen
 have fb:=hat2.len
 refine oZ (tN (dd _ _ (sk fun fc de=>(wt (oS rfl (Yk.alloc (cs:=(Lib.byteCells (List.replicate 32 0)).toArray) NH fun ar df bj b2 az fd=> ?_))))))
 have ai:=Ext.refl b1
 have fe:=hE
 have ff:=m
 have bd:=hE.size
 have be:=m.size
 have fg:=AT (bl c) bj
 have fh:=AT (bl h) bj
 have fi:=AT (bl ad) bj
 have bf:OB v5 ar:=AV n (by omega)
 have c:=eb az c
 have hE:=hE.trans az
 have h:=eb az h
 have m:=m.trans az
 have n:=Stab.own _ _ _ _ _ _ _ _ n az
 have ad:=eb az ad
 have ai:=ai.trans az
 have b3:=b2;clear b2
 have fj:ar<df.heap.size:=by omega
 refine oZ (tN (de _ _ (sk fun fk dg=>(sk fun fl dh=>(wt (oS rfl (Yk.fieldAt GG T3 (oS rfl (Yk.loadPart (cs:=s2.map fun x=>U x) (vr (PQ y 0) rfl) (Hb ad) Bf rfl (by rw[List.length_map,ao];exact DQ) (oM rfl (AH [(0,PQ g 0),(2,PQ n2 0),(3,PQ y 0),(4,v5),(5, .int .u64 (((N)*(8):Nat):Int)),(7,PQ ar 0),(11, .bool (false)),(36,NI i),(52, .agg (s2.map fun x=>U x).toArray),(53,NI 0)] ⟨q,z,T3,u,T5,rfl,ac,ae,rfl,rfl,trivial⟩ fun fm ⟨q,z,T3,u,T5,T7,ac,ae,a4,aj,_⟩=>(tN (dh _ _ (Aj (AX (fun(ρ:Aq) (wz:World)=>∃j:Nat,ρ 0=(PQ g 0:Value)∧ρ 2=(PQ n2 0:Value)∧ρ 3=(PQ y 0:Value)∧ρ 4=(v5:Value)∧ρ 5=(.int .u64 (((N)*(8):Nat):Int):Value)∧ρ 7=(PQ ar 0:Value)∧ρ 11=(.bool (false):Value)∧ρ 36=(NI i:Value)∧ρ 52=(.agg (s2.map fun x=>U x).toArray:Value)∧ρ 53=(NI j:Value)∧wz.heap[g]? =some (.cells (hashL s r f N).toArray 125 (0,0))∧Ext w wz∧wz.heap[n2]? =some (.cells (Lib.byteCells (List.replicate 32 0)).toArray 38 (0,0))∧Ext w3 wz∧wz.ownsRow aq.heap.size 5 1 v5 (Q:List UInt8).length (Lib.byteCells (Q))∧wz.heap[y]? =some (.cells (hashL s2 r2 ((p++Q).length%64) (p++Q).length).toArray 125 (0,0))∧Ext b1 wz∧wz.heap[ar]? =some (.cells (Lib.byteCells (Sha.outs s2 j)).toArray 38 (0,0))∧(j≤8)∧True) (fun ρ _=>8-(intOf (ρ 53)).toNat) ⟨0,q,z,T3,u,T5,T7,ac,ae,a4,aj,c,hE,h,m,n,ad,ai,AZ b3 (rfl),by omega,trivial⟩ ?_)))))))))))))))
 clear b3
 clear c hE h m n ad ai
 rintro di fo ⟨j,q,z,T3,u,T5,T7,ac,ae,a4,aj,c,hE,h,m,n,ad,ai,hb132l,hj,-⟩
 have q53:=aj
 refine sk fun fp dj=>(wt (oS rfl (Yk.eqI (a:=(j:Nat)) (b:=(8:Nat)) aj rfl (AN _ _ _ _) (oZ (tN (dj _ _ (sk fun fq dk=> ?_)))))))
 refine AO ((j)<(8)) (vr (.bool (decide ((j)<(8)))) rfl) (fun b4=> ?_) (fun b4=> ?_)
 ·refine Ah (tN (dk _ _ (sk fun fr dl=>(Aj (sk fun fs dm=>(wt (oM rfl (oS rfl (Yk.idxU (l:=s2) (i:=j) Bf A8 rfl A9 a4 aj (by omega) (ao) (oA rfl (oA rfl (oZ (tN (dm _ _ (wt (oM rfl (oS rfl (Yk.bin (xv:=NI 4) (yv:=NI j) rfl aj rfl (BG _ _ _ (by omega)) (oM rfl ?_)))))))))))))))))))
  refine oS rfl (Yk.bin (xv:=NI 4) (yv:=NI j) rfl aj rfl (BG _ _ _ (by omega)) (oS rfl (Yk.bin (xv:=NI ((4)*(j))) (yv:=NI 1) rfl rfl rfl (Ak _ _ _ (by omega)) (oM rfl (oS rfl (Yk.bin (xv:=NI 4) (yv:=NI j) rfl aj rfl (BG _ _ _ (by omega)) (oS rfl (Yk.bin (xv:=NI ((4)*(j))) (yv:=NI 2) rfl rfl rfl (Ak _ _ _ (by omega)) (oM rfl (oS rfl (Yk.bin (xv:=NI 4) (yv:=NI j) rfl aj rfl (BG _ _ _ (by omega)) (oS rfl (Yk.bin (xv:=NI ((4)*(j))) (yv:=NI 3) rfl rfl rfl (Ak _ _ _ (by omega)) (oM rfl (oS rfl (Yk.bin (vr (U (s2.getD (j) 0)) rfl) (vr (.int .u64 ((24:Nat):Int)) rfl) rfl (D5 _ _ _ 24 (by decide)) (oS rfl (Yk.narrow A8 u5 (vr (U ((s2.getD (j) 0)>>>24)) rfl) (oM rfl (oS rfl (Yk.bin (vr (U (s2.getD (j) 0)) rfl) (vr (.int .u64 ((16:Nat):Int)) rfl) rfl (D5 _ _ _ 16 (by decide)) (oS rfl (Yk.narrow A8 u5 (vr (U ((s2.getD (j) 0)>>>16)) rfl) (oM rfl (oS rfl (Yk.bin (vr (U (s2.getD (j) 0)) rfl) (vr (.int .u64 ((8:Nat):Int)) rfl) rfl (D5 _ _ _ 8 (by decide)) ?_))))))))))))))))))))))))))
  refine oS rfl (Yk.narrow A8 u5 (vr (U ((s2.getD (j) 0)>>>8)) rfl) (oM rfl (oS rfl (Yk.narrow A8 u5 (vr (U (s2.getD (j) 0)) rfl) (oS rfl (Yk.atArr0 (i:=(4)*(j)) Ow Ls T7 (vr (NI ((4)*(j))) rfl) (by omega) (oS rfl (Yk.storeB8 (i:=(4)*(j)) (v:=((s2.getD (j) 0)>>>24).toUInt8) (vr (.pointer (some ⟨ar,(4)*(j),none⟩)) rfl) (vr (B8 (((s2.getD (j) 0)>>>24).toUInt8)) rfl) hb132l (by rw[Sha.outs_length _ ao _ (by omega)];omega) O3 fun ft b5 a0 fu=> ?_))))))))
  have c:=kb a0 c (by omega)
  have hE:=Ac hE a0 (Nat.le_trans bd (by omega))
  have h:=kb a0 h (by omega)
  have m:=Ac m a0 (Nat.le_trans be (by omega))
  have n:=A7 n a0 bf
  have ad:=kb a0 ad (by omega)
  have ai:=Ac ai a0 (Nat.le_trans (Nat.le_refl _) (by omega))
  clear hb132l
  have hb132l:=b5;clear b5
  have fv:=bl hb132l
  refine oS rfl (Yk.atArr0 (i:=((4)*(j))+(1)) Ow Ls T7 (vr (NI (((4)*(j))+(1))) rfl) (by omega) (oS rfl (Yk.storeB8 (i:=((4)*(j))+(1)) (v:=((s2.getD (j) 0)>>>16).toUInt8) (vr (.pointer (some ⟨ar,((4)*(j))+(1),none⟩)) rfl) (vr (B8 (((s2.getD (j) 0)>>>16).toUInt8)) rfl) hb132l (by rw[List.length_set,Sha.outs_length _ ao _ (by omega)];omega) O3 fun fw b6 a1 fx=> ?_)))
  have c:=kb a1 c (by omega)
  have hE:=Ac hE a1 (Nat.le_trans bd (by omega))
  have h:=kb a1 h (by omega)
  have m:=Ac m a1 (Nat.le_trans be (by omega))
  have n:=A7 n a1 bf
  have ad:=kb a1 ad (by omega)
  have ai:=Ac ai a1 (Nat.le_trans (Nat.le_refl _) (by omega))
  clear hb132l
  have hb132l:=b6;clear b6
  have fy:=bl hb132l
  refine oS rfl (Yk.atArr0 (i:=((4)*(j))+(2)) Ow Ls T7 (vr (NI (((4)*(j))+(2))) rfl) (by omega) (oS rfl (Yk.storeB8 (i:=((4)*(j))+(2)) (v:=((s2.getD (j) 0)>>>8).toUInt8) (vr (.pointer (some ⟨ar,((4)*(j))+(2),none⟩)) rfl) (vr (B8 (((s2.getD (j) 0)>>>8).toUInt8)) rfl) hb132l (by rw[List.length_set,List.length_set,Sha.outs_length _ ao _ (by omega)];omega) O3 fun fz b7 a2 f0=> ?_)))
  have c:=kb a2 c (by omega)
  have hE:=Ac hE a2 (Nat.le_trans bd (by omega))
  have h:=kb a2 h (by omega)
  have m:=Ac m a2 (Nat.le_trans be (by omega))
  have n:=A7 n a2 bf
  have ad:=kb a2 ad (by omega)
  have ai:=Ac ai a2 (Nat.le_trans (Nat.le_refl _) (by omega))
  clear hb132l
  have hb132l:=b7;clear b7
  have f1:=bl hb132l
  refine oS rfl (Yk.atArr0 (i:=((4)*(j))+(3)) Ow Ls T7 (vr (NI (((4)*(j))+(3))) rfl) (by omega) (oS rfl (Yk.storeB8 (i:=((4)*(j))+(3)) (v:=(s2.getD (j) 0).toUInt8) (vr (.pointer (some ⟨ar,((4)*(j))+(3),none⟩)) rfl) (vr (B8 ((s2.getD (j) 0).toUInt8)) rfl) hb132l (by rw[List.length_set,List.length_set,List.length_set,Sha.outs_length _ ao _ (by omega)];omega) O3 fun f2 b8 a3 f3=> ?_)))
  have c:=kb a3 c (by omega)
  have hE:=Ac hE a3 (Nat.le_trans bd (by omega))
  have h:=kb a3 h (by omega)
  have m:=Ac m a3 (Nat.le_trans be (by omega))
  have n:=A7 n a3 bf
  have ad:=kb a3 ad (by omega)
  have ai:=Ac ai a3 (Nat.le_trans (Nat.le_refl _) (by omega))
  clear hb132l
  have hb132l:=b8;clear b8
  have f4:=bl hb132l
  refine oZ (bN (tN (dl _ _ (wt (oS rfl (Yk.bin (xv:=NI j) (yv:=NI 1) aj rfl rfl (Ak _ _ _ (by omega)) (oM rfl (AH [(0,PQ g 0),(2,PQ n2 0),(3,PQ y 0),(4,v5),(5, .int .u64 (((N)*(8):Nat):Int)),(7,PQ ar 0),(8,NI j),(9,U (s2.getD (j) 0)),(11, .bool (false)),(36,NI i),(52, .agg (s2.map fun x=>U x).toArray),(53,NI ((j)+(1)))] ⟨q,z,T3,u,T5,T7,aj,rfl,ac,ae,a4,rfl,trivial⟩ fun dn ⟨q,z,T3,u,T5,T7,T8,T9,ac,ae,a4,aj,_⟩=>(tN (And.intro ⟨j+1,q,z,T3,u,T5,T7,ac,ae,a4,aj,c,hE,h,m,n,ad,ai,AZ hb132l (congrArg Lib.byteCells (Sha.outs_step s2 ao j b4)),by omega,trivial⟩ ?_))))))))))
  show 8-(intOf (dn 53)).toNat<8-(intOf (di 53)).toNat
  rw[aj,q53]
  simp only[intOf,Int.toNat_natCast];omega
 refine AJ (Ag (Ag (Ap (tN (dg _ _ (sk fun f7 dp=>(wt (oS rfl (Yk.loadAll T7 hb132l Ow rfl (by rw[List.size_toArray,Lib.byteCells_length,Sha.outs_length _ ao _ (by omega)];exact L9) (oS rfl (Yk.storeAll z (vr (AB (Sha.outs s2 j)) rfl) h (by rw[List.size_toArray,Lib.byteCells_length,Sha.outs_length _ ao _ (by omega)];rfl) (by rw[List.size_toArray,Lib.byteCells_length,Sha.outs_length _ ao _ (by omega)];exact L9) (AF _) fun f8 b9 a8 f9=> ?_)))))))))))
 have c:=kb a8 c (by omega)
 have hE:=Ac hE a8 (Nat.le_trans (Nat.le_refl _) (by omega))
 clear h
 clear m
 have n:=A7 n a8 hap_v5_n2
 have ad:=kb a8 ad (by omega)
 clear ai
 have hb132l:=kb a8 hb132l (by omega)
 have h:=b9;clear b9
 have ga:=bl h
 refine oZ (tN (dp _ _ (As (Ao (fn:=Tryd.f40) _ rfl [AB (Sha.outs s2 j)] (AB (Sha.outs s2 j)) rfl ⟨ResF.row z h Ow rfl (by rw[List.size_toArray,Lib.byteCells_length,Sha.outs_length _ ao _ (by omega)];exact L9),trivial⟩ ?_))))
 refine⟨?_,hE⟩
 have e:Sha.outs s2 j=Sha.sum p:=by rw[show j=8 by omega,Sha.outs_all s2 ao,hat2.state,hQt];rfl
 rw[e]

open Go.RowKit
set_option maxRecDepth 100000
theorem HashAt.other{w w' :World}{g b:Nat}{p:List UInt8}(h:HashAt w g p)(hg:w.grownBy w' (some b))(hne:g≠b):HashAt w' g p:=by
 obtain⟨s,r,h1,h2⟩:=h
 exact⟨s,r,h1,(hg.block g (bl h2) (by simpa using hne)).trans h2⟩
theorem GH(ls:List (List UInt8))(i:Nat)(hi:i<ls.length):(ls.take (i+1)).flatten=(ls.take i).flatten++ls.getD i []:=by
 rw[List.take_succ_eq_append_getElem hi,List.flatten_append]
 simp[hi]
theorem HU(ls:List (List UInt8))(i:Nat)(hi:i<ls.length):(ls.take i).flatten.length+(ls.getD i []).length≤ls.flatten.length:=by
 have h1:=GH ls i hi
 have h2:ls.flatten=(ls.take (i+1)).flatten++(ls.drop (i+1)).flatten:=by rw[←List.flatten_append,List.take_append_drop]
 rw[h2,h1]
 simp only[List.length_append]
 omega
theorem MM:A2 Tryd.prog 38:=fun _ _=>by kernel_rfl
theorem IL:Tryd.prog.underlying 75=some (.slice 24):=by kernel_rfl
theorem MN:∀w' :World,(sizeOf 24).run Tryd.prog w' = .ok 1 w' :=fun _=>by kernel_rfl
theorem MO:A2 Tryd.prog 40:=fun _ _=>by kernel_rfl
theorem Ik(w:World)(g:Nat)(p:List UInt8)(hH:HashAt w g p)(v:Value)(hc:RB w v [])(hb:p.length<4611686018427387904):
  Calls Tryd.prog 39 #[PQ g 0,v] w fun e w' =>e = .returned (.tuple #[])∧HashAt w' g p∧w.grownBy w' (some g):=by
 obtain⟨s,r,hat,c⟩:=hH
 have hs:=hat.slen
 have hr:=hat.len
 obtain⟨f,hf⟩:∃f,f=p.length%64:=⟨_,rfl⟩
 rw[←hf]at c
 have hgr:w.grownBy w (some g):=World.grownBy.refl _ _
 refine AA (args:= [PQ g 0,v]) Tryd.func39 rfl 60 rfl (Nat.le_of_ble_eq_true rfl) ?_
 intro m hb
 have h:m 0=(PQ g 0:Value):=hb.get 0
 have j:m 1=(v:Value):=hb.get 1
 clear hb
 refine sk fun z o=>(sk fun K2 q=>(wt (oM rfl (oS rfl (Yk.eqlNil MF h (oZ (tN (q _ _ (Ar (vr (.bool (false)) rfl) (Ah (tN (o _ _ (sk fun K3 t=>(wt (oM rfl (oS rfl (Yk.nilCheck h (oS rfl (Yk.fieldAt GE (vr (PQ g 0) rfl) (oS rfl (Yk.cell1 NA rfl (vr (PQ g 73) rfl) (Ai c (EL hs hr)) ?_)))))))))))))))))))))
 refine oM rfl (oS rfl (Yk.lenRB DT (RB.of hc j) (oS rfl (Yk.bin (xv:=NI p.length) (yv:=NI ((([]:List UInt8):List UInt8).length)) rfl rfl rfl (Ak _ _ _ (by simp;omega)) (oS rfl (Yk.nilCheck h (oS rfl (Yk.fieldAt GE (vr (PQ g 0) rfl) (oS rfl (Yk.storeC (i:=73) (v:=NI ((p.length)+((([]:List UInt8):List UInt8).length))) (vr (PQ g 73) rfl) (vr (NI ((p.length)+((([]:List UInt8):List UInt8).length))) rfl) c (by rw[Cm hs hr];omega) JE rfl rfl fun l n u ac=> ?_))))))))))
 clear c
 have hc:RB l v ([]:List UInt8):=RB.nilAny hc
 have hgr:w.grownBy l (some g):=Bu hgr u (fun _ e=> .inl e)
 have c:=n;clear n
 have ad:=bl c
 refine AH [(0,PQ g 0),(1,v),(6, .bool (false))] ⟨h,j,rfl,trivial⟩ fun ae ⟨h,j,k,_⟩=> ?_
 have c:l.heap[g]? =some (.cells (hashL s r f p.length).toArray 125 (0,0)):=AZ c (Gh hs hr)
 refine tN (t _ _ (Aj (AX (fun(ρ:Aq) (wz:World)=>ρ 0=(PQ g 0:Value)∧ρ 6=(.bool (false):Value)∧ρ 1=(v:Value)∧RB wz v ([]:List UInt8)∧w.grownBy wz (some g)∧wz.heap[g]? =some (.cells (hashL s r f p.length).toArray 125 (0,0))∧True) (fun ρ _=>0) ⟨h,k,j,hc,hgr,c,trivial⟩ ?_)))
 clear hc hgr c
 rintro af ag ⟨h,k,j,hc,hgr,c,-⟩
 refine sk fun ah ai=>(sk fun aj x=>(wt (oM rfl (oS rfl (Yk.lenRB DT (RB.of hc j) (oS rfl (Yk.eqI (a:=((([]:List UInt8):List UInt8).length:Nat)) (b:=(0:Nat)) rfl rfl (Bm _ _ _ _) (AH [(0,PQ g 0),(1,v),(6, .bool (false)),(18, .bool (decide ((0)<((([]:List UInt8):List UInt8).length))))] ⟨h,j,k,rfl,trivial⟩ fun ak ⟨h,j,k,y,_⟩=>(tN (x _ _ (Ar (show _=Value.bool false from(y).trans (congrArg Value.bool (decide_eq_false (by simp)))) (AJ (Ag (Ag (Ap (Fg (fn:=Tryd.f39) [] rfl [] (.tuple #[]) rfl trivial ?_))))))))))))))))
 exact⟨rfl,⟨s,r,hat,by rw[←hf];exact c⟩,hgr⟩

theorem MP(w:World)(hG:Laid w)(g:Nat)(hh:1<g)(p:List UInt8)(hH:HashAt w g p)(v:Value)(c:List UInt8)(hc:RB w v c)(hv:0<c.length→v.ownBlock≠some g)(hb:p.length+c.length<4611686018427387904):
  Calls Tryd.prog 39 #[PQ g 0,v] w fun e w' =>e = .returned (.tuple #[])∧HashAt w' g (p++c)∧w.grownBy w' (some g):=by
 by_cases h0:0<c.length
 ·exact IK w hG g hh p hH v c hc (hv h0) hb
 ·have:c= []:=List.eq_nil_of_length_eq_zero (by omega)
  subst this
  rw[List.append_nil]
  exact Ik w g p hH v hc (by simpa using hb)

theorem OL(w:World)(hG:Laid w)(v:Value)(ls:List (List UInt8))(hls:RBs w v ls)(hb:ls.flatten.length<1152921504606846976)(hlen:ls.length<1152921504606846976):
    Calls Tryd.prog 17 #[v] w fun e w' =>e = .returned (AB (Sha.sum ls.flatten))∧Ext w w' :=by
 have hw2:1<w.heap.size:=hG.two
 refine AA (args:= [v]) Tryd.func17 rfl 19 rfl (Nat.le_of_ble_eq_true rfl) ?_
 intro ac hb
 have g:ac 0=(v:Value):=hb.get 0
 clear hb
 have hE:=Ext.refl w
 refine sk fun K1 ad=>(wt (oS rfl (Yk.alloc (cs:=(Lib.byteCells (List.replicate 32 0)).toArray) NH fun l p av t ae aw=> ?_)))
 have hE:=hE.trans ae
 have c:=t;clear t
 have ax:l<p.heap.size:=by omega
 refine oZ (tN (ad _ _ (sk fun ay af=>(wt (oS rfl (Yk.callA0 MM ((OJ _ (hG.keep hE)).mono ?_)))))))
 rintro e az ⟨gH,rfl,u,x,q⟩
 refine⟨_,rfl,?_⟩
 have f:=Ext.refl p
 have a0:=hE
 have ag:=hE.size
 have a1:l<gH:=by have:=(bl c);omega
 have hE:=hE.trans q
 have c:=eb q c
 have f:=f.trans q
 refine oA rfl (oZ (tN (af _ _ (sk fun a2 ah=>(sk fun a3 ai=>(wt (oM rfl (oS rfl (Yk.lenRBs IL (RBs.of (hls.keep hE) g) (oM rfl (AH [(0,v),(2,PQ l 0),(3,PQ gH 0),(7,v),(8,NI ls.length),(9,NI 0)] ⟨g,rfl,rfl,g,rfl,rfl,trivial⟩ fun a4 ⟨g,j,k,m,n,h,_⟩=>(tN (ai _ _ (Aj (AX (fun(ρ:Aq) (wz:World)=>∃i:Nat,ρ 0=(v:Value)∧ρ 2=(PQ l 0:Value)∧ρ 3=(PQ gH 0:Value)∧ρ 7=(v:Value)∧ρ 8=(NI ls.length:Value)∧ρ 9=(NI i:Value)∧Ext w wz∧wz.heap[l]? =some (.cells (Lib.byteCells (List.replicate 32 0)).toArray 38 (0,0))∧Ext p wz∧HashAt wz gH ((ls.take i).flatten)∧(i≤ls.length)∧True) (fun ρ _=>ls.length-(intOf (ρ 9)).toNat) ⟨0,g,j,k,m,n,h,hE,c,f,by simpa using x,Nat.zero_le _,trivial⟩ ?_)))))))))))))))
 clear x
 clear hE c f
 rintro aj a5 ⟨i,g,j,k,m,n,h,hE,c,f,hHi,hi,-⟩
 have q9:=h
 refine sk fun a6 ak=>(wt (oS rfl (Yk.eqI (a:=(i:Nat)) (b:=(ls.length:Nat)) h n (AN _ _ _ _) (oZ (tN (ak _ _ (sk fun a7 al=> ?_)))))))
 refine AO ((i)<(ls.length)) (vr (.bool (decide ((i)<(ls.length)))) rfl) (fun hi3=> ?_) (fun hi3=> ?_)
 ·refine Ah (tN (al _ _ (sk fun a8 am=>(Aj (sk fun a9 an=>(wt (oS rfl (Yk.atRBs0 (ls:=ls) (i:=i) hE IL MN hls m h (hi3) fun ao r y z=>(oS rfl (Yk.loadC DT rfl (PCell.of y (vr ao rfl)) (oA rfl (oZ ?_))))))))))))
  clear y
  refine tN (an _ _ (wt (oM rfl (oM rfl (oS rfl (Yk.callA2 MJ k (vr r rfl) ((MP _ (hG.keep hE) gH (by omega) ((ls.take i).flatten) hHi r (ls.getD (i) []) (z.keep hE) (fun h0 hb=>by have:=RB.lt z h0 hb;omega) (by have:=HU ls i hi3;omega)).mono ?_)))))))
  rintro e ba ⟨rfl,ap,s⟩
  refine⟨_,rfl,?_⟩
  have hE:=Ac hE s (Nat.le_trans ag u)
  have c:=kb s c (by omega)
  have f:=Ac f s (Nat.le_trans (Nat.le_refl _) u)
  clear hHi
  refine oZ (bN (tN (am _ _ (wt (oS rfl (Yk.bin (xv:=NI i) (yv:=NI 1) h rfl rfl (Ak _ _ _ (by have:=hlen;omega)) (oM rfl (AH [(0,v),(2,PQ l 0),(3,PQ gH 0),(5,r),(7,v),(8,NI ls.length),(9,NI ((i)+(1)))] ⟨g,j,k,rfl,m,n,rfl,trivial⟩ fun aq ⟨g,j,k,T5,m,n,h,_⟩=>(tN (And.intro ⟨i+1,g,j,k,m,n,h,hE,c,f,(show HashAt _ _ _ from by rw[GH ls i hi3];exact ap),by omega,trivial⟩ ?_))))))))))
  show ls.length-(intOf (aq 9)).toNat<ls.length-(intOf (aj 9)).toNat
  rw[h,q9]
  simp only[intOf,Int.toNat_natCast];omega
 have hfl:(ls.take i).flatten=ls.flatten:=by rw[List.take_of_length_le (by omega)]
 have hfl2:=congrArg List.length hfl
 refine AJ (Ag (Ag (Ap (tN (ah _ _ (sk fun bc ar=>(wt (oM rfl (oS rfl (Yk.callA1 MO k ((ML _ (hG.keep hE) gH ((ls.take i).flatten) hHi (by omega)).mono ?_)))))))))))
 rintro e bd ⟨rfl,o⟩
 refine⟨_,rfl,?_⟩
 have hE:=hE.trans o
 have c:=eb o c
 have f:=f.trans o
 have hHi:=hHi.keep o
 refine oS rfl (Yk.storeAll j (vr (AB (Sha.sum ((ls.take i).flatten))) rfl) c (by rw[List.size_toArray,Lib.byteCells_length,Sha.sum_length];rfl) (by rw[List.size_toArray,Lib.byteCells_length,Sha.sum_length];exact L9) (AF _) fun be aa ab bf=> ?_)
 have hE:=Ac hE ab (Nat.le_trans (Nat.le_refl _) (by omega))
 clear c
 clear f
 have hHi:=HashAt.other hHi ab (by omega)
 have c:=aa;clear aa
 have bg:=bl c
 refine oZ (tN (ar _ _ (As (Ao (fn:=Tryd.f17) _ rfl [AB (Sha.sum ((ls.take i).flatten))] (AB (Sha.sum ((ls.take i).flatten))) rfl ⟨ResF.row j c Ow rfl (by rw[List.size_toArray,Lib.byteCells_length,Sha.sum_length];exact L9),trivial⟩ ?_))))
 rw[hfl]
 exact⟨rfl,hE⟩
end Go.Proofs.YtcegdjpdnlaleaaDoor
