/- Part 5 of what stands behind these statements: laws and walks of the functions that are reached. Conditions: those that each theorem names. -/
import Derived.Test.YtejpjjhkjdpeaaaGreatDoorZ4
set_option linter.unusedVariables false
set_option linter.unusedSimpArgs false
namespace Go.Proofs.YtejpjjhkjdpeaaaGreatDoor
open Go.RowKit
set_option linter.unusedVariables false
def Ac(D:An):S4:=⟨true,((D.quota:Nat):Int),D.files.map Prod.fst,D.files.map fun x=>((x.2:Nat):Int),D.now,D.kept,D.acts,D.refused,D.arm,D.down⟩
theorem RG.chg{α:Type}{k:Nat}{enc:α→List Value}{w w' :World}{v:Value}{l:List α}{B:Nat→Prop}(h:RG k enc w v l)(hc:Chg B w w')(hB:l= []∨∀i,v.ownBlock=some i→¬B i):RG k enc w' v l:=by
  rcases hB with rfl | hB
  · exact HO h
  · obtain⟨h0,h1,ao,cap,rfl,h2,h3,h4,h5⟩:=h
    refine⟨h0,h1,ao,cap,rfl,h2,h3,h4,fun a ha j u hu=> ?_⟩
    have hl:=h5 a ha j u hu
    have hlt:=World.block_lt_of_cell? w _ hl
    have hn:¬B (a.add j).block:=hB _ (by rw[ha];obtain⟨a1,a2,a3⟩:=a;simp only[Value.ownBlock,Addr.add];split <;> rfl)
    have hb:=hc.blk _ hlt hn
    unfold World.cell? at hl ⊢
    rw[hb]
    exact hl
def RgP(P:Nat→Prop){α:Type}(k:Nat)(enc:α→List Value)(w:World)(v:Value)(l:List α):Prop:=RG k enc w v l∧(l= []∨∃b,v.ownBlock=some b∧b<w.heap.size∧P b)
theorem RgP.keep{P:Nat→Prop}{α:Type}{k:Nat}{enc:α→List Value}{w w' :World}{v:Value}{l:List α}(h:RgP P k enc w v l)(hE:Ext w w'):RgP P k enc w' v l:=
  ⟨h.1.keep hE,h.2.imp id fun⟨b,q1,q2,q3⟩=>⟨b,q1,Nat.lt_of_lt_of_le q2 hE.size,q3⟩⟩
theorem RgP.chg{P P' B:Nat→Prop}{α:Type}{k:Nat}{enc:α→List Value}{w w' :World}{v:Value}{l:List α}(h:RgP P k enc w v l)(hc:Chg B w w')(hB:∀b,b<w.heap.size→P b→¬B b∧P' b):RgP P' k enc w' v l:=
  ⟨h.1.chg hc (h.2.imp id fun⟨b,q1,q2,q3⟩ i hi=>by rw[q1]at hi;cases hi;exact(hB _ q2 q3).1),h.2.imp id fun⟨b,q1,q2,q3⟩=>⟨b,q1,Nat.lt_of_lt_of_le q2 hc.size,(hB b q2 q3).2⟩⟩
theorem RgP.own{P:Nat→Prop}{α:Type}{k base:Nat}{t:TypeId}{enc:α→List Value}{w:World}{v:Value}{l:List α}(h:OG base t k enc w v l)(hk:0<k)(hP:∀b,base≤b→P b):RgP P k enc w v l:=by
  refine⟨RG.ofOwn h,?_⟩
  rcases h.2.2 with ⟨-,h0⟩ | ⟨g,cap,cur,rfl,hb,hc,-⟩
  · exact .inl (List.eq_nil_of_length_eq_zero h0)
  · exact .inr ⟨g,rfl,(Array.getElem?_eq_some_iff.1 hc).1,hP g (h.2.lt g rfl).1⟩
structure RowsP (P : Nat → Prop) (w : World) (vs : List Value) (ls : List (List UInt8)) : Prop where
  len:vs.length=ls.length
  at_:∀i,i<ls.length→RB w (vs.getD i undef) (ls.getD i [])∧(ls.getD i []= []∨∃b,(vs.getD i undef).ownBlock=some b∧b<w.heap.size∧P b)
theorem RowsP.keep{P:Nat→Prop}{w w' :World}{vs:List Value}{ls:List (List UInt8)}(h:RowsP P w vs ls)(hE:Ext w w'):RowsP P w' vs ls:=
  ⟨h.len,fun i hi=>⟨(h.at_ i hi).1.keep hE,(h.at_ i hi).2.imp id fun⟨b,q1,q2,q3⟩=>⟨b,q1,Nat.lt_of_lt_of_le q2 hE.size,q3⟩⟩⟩
theorem RowsP.chg{P P' B:Nat→Prop}{w w' :World}{vs:List Value}{ls:List (List UInt8)}(h:RowsP P w vs ls)(hc:Chg B w w')(hB:∀b,b<w.heap.size→P b→¬B b∧P' b):RowsP P' w' vs ls:=
  ⟨h.len,fun i hi=>⟨(h.at_ i hi).1.chg hc ((h.at_ i hi).2.imp id fun⟨b,q1,q2,q3⟩ i hi=>by rw[q1]at hi;cases hi;exact(hB _ q2 q3).1),(h.at_ i hi).2.imp id fun⟨b,q1,q2,q3⟩=>⟨b,q1,Nat.lt_of_lt_of_le q2 hc.size,(hB b q2 q3).2⟩⟩⟩
structure RowsO (base : Nat) (w : World) (vs : List Value) (ls : List (List UInt8)) : Prop where
  len:vs.length=ls.length
  own:∀i,i<ls.length→w.ownsRow base 5 1 (vs.getD i undef) (ls.getD i []).length (Lib.byteCells (ls.getD i []))
  apart:∀i j,i<ls.length→j<ls.length→i≠j→∀x,(vs.getD i undef).ownBlock=some x→(vs.getD j undef).ownBlock≠some x
theorem RowsO.nil(base:Nat)(w:World):RowsO base w [] []:=⟨rfl,fun i h=>absurd h (Nat.not_lt_zero _),fun i j h=>absurd h (Nat.not_lt_zero _)⟩
theorem RowsO.chg{B:Nat→Prop}{base:Nat}{w w' :World}{vs:List Value}{ls:List (List UInt8)}(h:RowsO base w vs ls)(hc:Chg B w w')(hB:∀i,i<ls.length→∀x,(vs.getD i undef).ownBlock=some x→¬B x):RowsO base w' vs ls:=
  ⟨h.len,fun i hi=>CC hc (h.own i hi) (hB i hi),h.apart⟩
theorem RowsO.keep{base:Nat}{w w' :World}{vs:List Value}{ls:List (List UInt8)}(h:RowsO base w vs ls)(hE:Ext w w'):RowsO base w' vs ls:=h.chg (B:=fun _=>False) (Chg.ofExt hE) fun _ _ _ _ q=>q
theorem RowsO.grew{base:Nat}{w w' :World}{vs:List Value}{ls:List (List UInt8)}(h:RowsO base w vs ls){v v' :Value}(hg:Grew w w' v v'){b k n:Nat}{t:TypeId}{xs:List Value}(hv:w.ownsRow b t k v n xs)(ht:t≠5):RowsO base w' vs ls:=
  h.chg (B:=fun i=>v.ownBlock=some i) (Chg.ofGrown hg.by_ fun i e=> .inl e) fun i hi x hx e=>BC (Ck (h.own i hi) hx) (Ck hv e) (fun q=>ht (by simpa using q.symm)) rfl
theorem RowsO.set{base:Nat}{w w' :World}{vs:List Value}{ls:List (List UInt8)}(h:RowsO base w vs ls){g:Nat}(hg:w.grownBy w' (some g)){cs:Array Value}{t:TypeId}{fr:Nat × Nat}(hb:w.heap[g]? =some (.cells cs t fr))(ht:t≠5):RowsO base w' vs ls:=
  h.chg (B:=fun i=>i=g) (Chg.ofGrown hg fun i e=> .inl (Option.some.inj e).symm) fun i hi x hx e=>BC (Ck (h.own i hi) hx) (BF hb) (fun q=>ht (by simpa using q.symm)) e
theorem MM{l:List Value}{v:Value}:(l++ [v]).getD l.length undef=v:=by simp[List.getD_eq_getElem?_getD]
theorem RowsO.snoc{base:Nat}{w:World}{vs:List Value}{ls:List (List UInt8)}(h:RowsO base w vs ls){v:Value}{l:List UInt8}(hv:w.ownsRow base 5 1 v l.length (Lib.byteCells l))(ha:∀i,i<ls.length→∀x,(vs.getD i undef).ownBlock=some x→v.ownBlock≠some x):RowsO base w (vs++ [v]) (ls++ [l]):=by
  have hl:=h.len
  have a:∀ {i},i<ls.length→(vs++ [v]).getD i undef=vs.getD i undef:=fun {i} hi=>by rw[List.getD_eq_getElem?_getD,List.getElem?_append_left (by omega),←List.getD_eq_getElem?_getD]
  have b:(vs++ [v]).getD ls.length undef=v:=by rw[←hl];exact MM
  have c:∀ {i},i<ls.length→(ls++ [l]).getD i []=ls.getD i []:=fun {i} hi=>by rw[List.getD_eq_getElem?_getD,List.getElem?_append_left hi,←List.getD_eq_getElem?_getD]
  have e:(ls++ [l]).getD ls.length []=l:=by simp[List.getD_eq_getElem?_getD]
  refine⟨by simp[hl],fun i hi=> ?_,fun i j hi hj hne x hx=> ?_⟩
  · rw[List.length_append,List.length_singleton]at hi
    by_cases q:i=ls.length
    · subst q
      rw[b,e]
      exact hv
    · rw[a (by omega),c (by omega)]
      exact h.own i (by omega)
  · rw[List.length_append,List.length_singleton]at hi hj
    by_cases qi:i=ls.length <;> by_cases qj:j=ls.length
    · omega
    · subst qi
      rw[b]at hx
      rw[a (by omega)]
      exact fun y=>ha j (by omega) x y hx
    · subst qj
      rw[a (by omega)]at hx
      rw[b]
      exact ha i (by omega) x hx
    · rw[a (by omega)]at hx ⊢
      exact h.apart i j (by omega) (by omega) hne x hx
theorem RowsO.rows{P:Nat→Prop}{base:Nat}{w:World}{vs:List Value}{ls:List (List UInt8)}(h:RowsO base w vs ls)(hP:∀b,base≤b→P b):RowsP P w vs ls:=
  ⟨h.len,fun i hi=>⟨RB.ofOwn (h.own i hi),by
    rcases(h.own i hi).2 with ⟨-,h0⟩ | ⟨g,cap,cur,e,hb,hc,-⟩
    · exact .inl (List.eq_nil_of_length_eq_zero h0)
    · have a:(vs.getD i undef).ownBlock=some g:=by rw[e];rfl
      exact .inr ⟨g,a,(Array.getElem?_eq_some_iff.1 hc).1,hP g ((h.own i hi).lt g a).1⟩⟩⟩
structure RdAt (P : Nat → Prop) (w : World) (D : An) (V : Cn) : Prop where
  files:∃vs,RowsP P w vs (D.files.map Prod.fst)∧RgP P 1 DF w V.files vs
  synced:RgP P 1 DG w V.synced (D.files.map fun x=>((x.2:Nat):Int))
  now:RgP P 2 renC w V.now D.now
  kept:RgP P 2 renC w V.kept D.kept
  acts:RgP P 3 racC w V.acts D.acts
structure RdO (base : Nat) (w : World) (D : An) (V : Cn) : Prop where
  files:∃vs,RowsO base w vs (D.files.map Prod.fst)∧OG base 35 1 DF w V.files vs
  synced:OG base 3 1 DG w V.synced (D.files.map fun x=>((x.2:Nat):Int))
  now:OG base 83 2 renC w V.now D.now
  kept:OG base 83 2 renC w V.kept D.kept
  acts:OG base 114 3 racC w V.acts D.acts
section
variable {P P' B : Nat → Prop} {w w' : World} {D : An} {V : Cn}
theorem RdAt.keep(h:RdAt P w D V)(hE:Ext w w'):RdAt P w' D V:=by
  obtain⟨vs,h1,h2⟩:=h.files
  exact⟨⟨vs,h1.keep hE,h2.keep hE⟩,h.synced.keep hE,h.now.keep hE,h.kept.keep hE,h.acts.keep hE⟩
theorem RdAt.chg(h:RdAt P w D V)(hc:Chg B w w')(hB:∀b,b<w.heap.size→P b→¬B b∧P' b):RdAt P' w' D V:=by
  obtain⟨vs,h1,h2⟩:=h.files
  exact⟨⟨vs,h1.chg hc hB,h2.chg hc hB⟩,h.synced.chg hc hB,h.now.chg hc hB,h.kept.chg hc hB,h.acts.chg hc hB⟩
theorem RdO.at_{base:Nat}(h:RdO base w D V)(hP:∀b,base≤b→P b):RdAt P w D V:=by
  obtain⟨vs,h1,h2⟩:=h.files
  exact⟨⟨vs,h1.rows hP,RgP.own h2 (by decide) hP⟩,RgP.own h.synced (by decide) hP,RgP.own h.now (by decide) hP,RgP.own h.kept (by decide) hP,RgP.own h.acts (by decide) hP⟩
end
theorem Lk{l:Ba}{s:List UInt8}{i:Nat}(hi:i<l.length)(hb:∀e∈l.take i,e.1≠s)(he:(l.getD i ([],0)).1=s):AD l s=some (l.getD i ([],0)).2:=by
  have a:l=l.take i++l.getD i ([],0) :: l.drop (i+1):=by
    rw[List.getD_eq_getElem?_getD,List.getElem?_eq_getElem hi]
    simp
  rw[a,EE,DU.2 (by intro e h;exact hb e h),Option.none_or,B7]
  rw[←a,if_pos he]
def GL(l:Ba)(s:List UInt8):Int:=match AD l s with | some k=>((k:Nat):Int) | none=> -1
theorem DD{l:Ba}{s:List UInt8}{k:Nat}(h:AD l s=some k):GL l s=((k:Nat):Int):=by unfold GL;rw[h]
theorem Ec{l:Ba}{s:List UInt8}(h:AD l s=none):GL l s = -1:=by unfold GL;rw[h]
theorem LQ(x:Int)(m:Nat):((Int.emod x ((m+1:Nat):Int)).toNat:Int)=if Int.tmod x ((m+1:Nat):Int)<0 then Int.tmod x ((m+1:Nat):Int)+((m+1:Nat):Int)else Int.tmod x ((m+1:Nat):Int):=by
  have hb:=EB x m
  have h3:Int.tmod x ((m+1:Nat):Int)=x-((m+1:Nat):Int)*Int.tdiv x ((m+1:Nat):Int):=Int.tmod_def _ _
  have h5:0≤Int.emod x ((m+1:Nat):Int):=Int.emod_nonneg x (show((m+1:Nat):Int)≠0 by omega)
  rw[Int.toNat_of_nonneg h5]
  by_cases hn:Int.tmod x ((m+1:Nat):Int)<0
  · rw[if_pos hn]
    have e:Int.tmod x ((m+1:Nat):Int)+((m+1:Nat):Int)=x+((m+1:Nat):Int)*(1-Int.tdiv x ((m+1:Nat):Int)):=by
      rw[h3,Int.mul_sub,Int.mul_one]
      omega
    have h6:(Int.tmod x ((m+1:Nat):Int)+((m+1:Nat):Int))%((m+1:Nat):Int)=x%((m+1:Nat):Int):=by rw[e,Int.add_mul_emod_self_left]
    rw[Int.emod_eq_of_lt (by omega) (by omega)]at h6
    exact h6.symm
  · rw[if_neg hn]
    have e:Int.tmod x ((m+1:Nat):Int)=x+((m+1:Nat):Int)*(- Int.tdiv x ((m+1:Nat):Int)):=by
      rw[h3,Int.mul_neg]
      omega
    have h6:(Int.tmod x ((m+1:Nat):Int))%((m+1:Nat):Int)=x%((m+1:Nat):Int):=by
      rw[e,Int.add_mul_emod_self_left]
    rw[Int.emod_eq_of_lt (by omega) (by omega)]at h6
    exact h6.symm
open Go.RowKit
set_option maxRecDepth 100000
set_option linter.unusedVariables false
set_option linter.unusedSimpArgs false
theorem RK{l:Ba}{s:List UInt8}{i:Nat}(hi:i<l.length)(hq:∀e∈l.take i,e.1≠s)(hn:¬(l.getD i ([],0)).1=s):∀e∈l.take (i+1),e.1≠s:=by
 rw[List.take_succ_eq_append_getElem hi]
 rw[List.getD_eq_getElem?_getD,List.getElem?_eq_getElem hi]at hn
 intro e he
 rcases List.mem_append.1 he with he | he
 ·exact hq e he
 ·rw[List.mem_singleton.1 he];exact hn
theorem lt_step{l:Ba}{s:List UInt8}{i:Nat}(hi:i<l.length)(hq:∀e∈l.take i,Op.bytesLess e.1 s=true)(hn:Op.bytesLess (l.getD i ([],0)).1 s=true):∀e∈l.take (i+1),Op.bytesLess e.1 s=true:=by
 rw[List.take_succ_eq_append_getElem hi]
 rw[List.getD_eq_getElem?_getD,List.getElem?_eq_getElem hi]at hn
 intro e he
 rcases List.mem_append.1 he with he | he
 ·exact hq e he
 ·rw[List.mem_singleton.1 he];exact hn
theorem wo_ne{l:Ba}{s:List UInt8}{i:Nat}(hi:i<l.length)(hn:(l.getD i ([],0)).1≠s):woD (l.take i) s++ [l.getD i ([],0)]=woD (l.take (i+1)) s:=by
 unfold woD
 rw[List.take_succ_eq_append_getElem hi,List.filter_append]
 rw[List.getD_eq_getElem?_getD,List.getElem?_eq_getElem hi]at hn ⊢
 rw[List.filter_cons_of_pos (by simpa using hn)]
 rfl
theorem SX{l:Ba}{s:List UInt8}{i:Nat}(hi:i<l.length)(hn:¬(l.getD i ([],0)).1≠s):woD (l.take i) s=woD (l.take (i+1)) s:=by
 unfold woD
 rw[List.take_succ_eq_append_getElem hi,List.filter_append]
 rw[List.getD_eq_getElem?_getD,List.getElem?_eq_getElem hi]at hn
 rw[List.filter_cons_of_neg (by simpa using hn)]
 simp
theorem FT{α:Type}{f:α→Bool}:∀ {l:List α} {i:Nat} (d:α),i≤l.length→(∀e∈l.take i,f e=true)→(l.length=i∨(i<l.length∧f (l.getD i d)=false))→l.takeWhile f=l.take i∧l.dropWhile f=l.drop i
 | [],i,d,_,_,_=>by simp
 | a :: l,0,d,_,_,h=>by
  rcases h with h | ⟨_,h⟩
  ·simp at h
  ·have h:f a=false:=h
   simp[List.takeWhile_cons,List.dropWhile_cons,h]
 | a :: l,i+1,d,hi,hq,h=>by
  have ha:f a=true:=hq a (by simp)
  have ih:=FT (l:=l) (i:=i) (f:=f) d (by simpa using hi) (fun e he=>hq e (by simp[he])) (by simpa using h)
  simp[List.takeWhile_cons,List.dropWhile_cons,ha,ih.1,ih.2]
theorem LR{l:Ba}{s:List UInt8}{k i:Nat}(hi:i≤l.length)(hq:∀e∈l.take i,Op.bytesLess e.1 s=true)(h:l.length=i∨(i<l.length∧Op.bytesLess (l.getD i ([],0)).1 s=false)):l.take i++(s,k) :: l.drop i=DQ l s k:=by
 obtain⟨h1,h2⟩:=FT (f:=fun e:List UInt8 × Nat=>Op.bytesLess e.1 s) ([],0) hi hq h
 unfold DQ
 rw[h1,h2]
theorem Bn:Tryz.prog.underlying 28=some (.slice 83):=by kernel_rfl
theorem CT:∀w' :World,(sizeOf 83).run Tryz.prog w' = .ok 2 w' :=fun _=>by kernel_rfl
theorem FF:A3 Tryz.prog 83 0 0:=fun b o w=>by simp[go_sem]
theorem MN:A3 Tryz.prog 83 1 1:=fun b o w=>by simp[go_sem]
theorem Qd:∃fs,Tryz.prog.underlying 83=some (.struct fs):=Es (by kernel_rfl)
theorem Oe:(Tryz.prog.info? 83).map (·.size)=some 2:=by kernel_rfl
theorem Qe(c0 c1:Value)(w:World):(Instr.buildSlice 28 1 #[(0, .agg #[c0,c1])]).run Tryz.prog w = .ok (.slice (some ⟨w.heap.size,0,none⟩) 1 1) (w.alloc (.cells #[c0,c1] 83)):=by kernel_rfl
theorem Hh:∀(cs:Array Value),cs.size=2→∀w:World,(Instr.buildSlice 28 1 #[(0, .agg cs)]).run Tryz.prog w = .ok (.slice (some ⟨w.heap.size,0,none⟩) 1 1) (w.alloc (.cells cs 83))
 | ⟨[c0,c1]⟩,_,w=>Qe c0 c1 w
theorem rd1_ig83:∃z,(Tryz.prog.info? 83).map (fun i=>(i.zero,i.size,i.bytes))=some (some z,2,24)∧z.cells.size=2:=Eg (by kernel_rfl)
theorem Ll:A3 Tryz.prog 114 0 0:=fun b o w=>by simp[go_sem]
theorem Kp:Plain Tryz.prog 88:=fun _ _=>by kernel_rfl
theorem DK:A3 Tryz.prog 114 1 1:=fun b o w=>by simp[go_sem]
theorem GW:A3 Tryz.prog 114 2 2:=fun b o w=>by simp[go_sem]
theorem Jw(z0:ByteArray)(z1:Int)(w:World):(Instr.build 83 #[(0, .string z0),(1, .int .i64 z1)]).run Tryz.prog w = .ok (.agg #[.string z0, .int .i64 z1]) w:=by kernel_rfl
theorem Gy(z0:List UInt8)(z1:Nat)(w:World):(Instr.build 83 #[(0,St z0),(1,NI z1)]).run Tryz.prog w = .ok (.agg (St (z0) :: (NI (z1) :: ([]))).toArray) w:=by
 exact Jw _ _ w
set_option maxHeartbeats 1600000
theorem Of(w:World)(v:Value)(l:Ba)(s:List UInt8)(hl:RG 2 (renC) w v l)(hll:l.length<1099511627776):
  Calls Tryz.prog 62 #[v,St s] w fun e w' =>e = .returned (.int .i64 (GL l s))∧Ext w w' :=by
 refine gG (args:= [v,St (s)]) Tryz.func62 rfl 24 rfl rfl ?_
 have hE:=Ext.refl w
 refine gL (fun(ρ:Ai) (wz:World)=>∃i:Nat,ρ 0=(v:Value)∧ρ 1=(St (s):Value)∧ρ 5=(NI i:Value)∧Ext w wz∧(i≤l.length)∧(∀e∈l.take i,e.1≠s)∧True) (fun ρ _=>l.length-(intOf (ρ 5)).toNat) ⟨0,rfl,rfl,rfl,hE,Nat.zero_le _,(fun _ h=>by cases h),trivial⟩ ?_
 clear hE
 rintro u p ⟨i,f,q,c,hE,hi,hq,-⟩
 have q5:=c
 refine gS (Yk.lenRG Bn (RG.of (hl.keep hE) f) (gS (Yk.eqI (a:=(i:Nat)) (b:=(l.length:Nat)) c rfl (AO _ _ _ _) ?_)))
 refine cD rfl (fun k=> ?_) fun k=> ?_
 ·have hlt:i<l.length:=k
  have z:(renC (l.getD (i) (([],0):List UInt8 × Nat))).length=2:=(RG.elem (hl.keep hE) (([],0):List UInt8 × Nat) (by omega))
  refine gS (Yk.atRG Bn CT (by decide) (([],0):List UInt8 × Nat) (RG.of (hl.keep hE) f) c (by omega) fun aa r=>(gS (Yk.fieldPR (n:=1) FF (PR.of r rfl) fun x g=> ?_)))
  have g:PCell (St ((l.getD (i) (([],0):List UInt8 × Nat)).1)) x p:=PR.pcell ((Gu (l.getD (i) (([],0):List UInt8 × Nat)))▸g)
  refine gS (Yk.loadC Io rfl (PCell.of g rfl) (gS (Yk.eqSt (l:=(l.getD (i) (([],0):List UInt8 × Nat)).1) (m:=s) (.inl rfl) rfl q (decide ((l.getD (i) (([],0):List UInt8 × Nat)).1=s)) rfl ?_)))
  clear r
  clear g
  refine cD rfl (fun o=> ?_) fun o=> ?_
  ·have ab:(renC (l.getD (i) (([],0):List UInt8 × Nat))).length=2:=(RG.elem (hl.keep hE) (([],0):List UInt8 × Nat) (by omega))
   refine gS (Yk.atRG Bn CT (by decide) (([],0):List UInt8 × Nat) (RG.of (hl.keep hE) f) c (by omega) fun ac t=>(gS (Yk.fieldPR (n:=1) MN (PR.of t rfl) fun y j=> ?_)))
   have j:PCell (NI ((l.getD (i) (([],0):List UInt8 × Nat)).2)) y p:=PR.pcell ((HY (l.getD (i) (([],0):List UInt8 × Nat)))▸j)
   refine gS (Yk.loadC Pb rfl (PCell.of j rfl) ?_)
   clear t
   clear j
   refine AX rfl (vr (NI ((l.getD (i) (([],0):List UInt8 × Nat)).2)) rfl) ?_
   exact⟨by rw[DD (Lk hlt hq o)],hE⟩
  refine gS (Yk.bin (xv:=NI i) (yv:=NI 1) c rfl rfl (Ap _ _ _ (by omega)) (gK (And.intro ⟨i+1,f,q,rfl,hE,by omega,RK hlt hq o,trivial⟩ ?_)))
  show l.length-(intOf (NI ((i)+(1)))).toNat<l.length-(intOf (u 5)).toNat
  rw[q5]
  simp only[intOf,Int.toNat_natCast];omega
 refine AX rfl (vr (.int .i64 (-1:Int)) rfl) ?_
 have hie:i=l.length:=by have h:=k;omega
 rw[hie,List.take_length]at hq
 exact⟨by rw[Ec (DU.2 hq)],hE⟩

theorem GX(w:World)(v:Value)(l:Ba)(s:List UInt8)(hl:RG 2 (renC) w v l)(hll:l.length<1099511627776):
  Calls Tryz.prog 88 #[v,St s] w fun e w' =>∃v',e = .returned v' ∧OG w.heap.size 83 2 (renC) w' v' (woD l s)∧Ext w w' :=by
 refine gG (args:= [v,St (s)]) Tryz.func88 rfl 28 rfl rfl ?_
 have hE:=Ext.refl w
 have hlw0:w.heap.size≤w.heap.size:=hE.size
 have hrow0:OG w.heap.size 83 2 (renC) w (Value.slice none 0 0) ([]:List (List UInt8 × Nat)):=OG.nil _ _ _ _ _
 refine gL (fun(ρ:Ai) (wz:World)=>∃i:Nat,∃r:Value,ρ 0=(v:Value)∧ρ 1=(St (s):Value)∧ρ 4=((Value.slice none 0 0):Value)∧ρ 6=(NI i:Value)∧ρ 5=(r:Value)∧Ext w wz∧OG w.heap.size 83 2 (renC) wz r (woD (l.take i) s)∧(i≤l.length)∧True) (fun ρ _=>l.length-(intOf (ρ 6)).toNat) ⟨0,(Value.slice none 0 0),rfl,rfl,rfl,rfl,rfl,hE,Bk hrow0 (rfl),Nat.zero_le _,trivial⟩ ?_
 clear hrow0
 clear hE
 rintro x w6 ⟨i,r,f,o,y,c,g,hE,hr_r,hi,-⟩
 have q6:=c
 refine gS (Yk.lenRG Bn (RG.of (hl.keep hE) f) (gS (Yk.eqI (a:=(i:Nat)) (b:=(l.length:Nat)) c rfl (AO _ _ _ _) ?_)))
 refine cD rfl (fun p=> ?_) fun p=> ?_
 ·have hlt:i<l.length:=p
  have ai:(renC (l.getD (i) (([],0):List UInt8 × Nat))).length=2:=(RG.elem (hl.keep hE) (([],0):List UInt8 × Nat) (by omega))
  refine gS (Yk.atRG Bn CT (by decide) (([],0):List UInt8 × Nat) (RG.of (hl.keep hE) f) c (by omega) fun aj z=>(gS (Yk.fieldPR (n:=1) FF (PR.of z rfl) fun ad j=> ?_)))
  have j:PCell (St ((l.getD (i) (([],0):List UInt8 × Nat)).1)) ad w6:=PR.pcell ((Gu (l.getD (i) (([],0):List UInt8 × Nat)))▸j)
  refine gS (Yk.loadC Io rfl (PCell.of j rfl) (gS (Yk.eqSt (l:=(l.getD (i) (([],0):List UInt8 × Nat)).1) (m:=s) (.inr rfl) rfl o (decide ((l.getD (i) (([],0):List UInt8 × Nat)).1≠s)) rfl ?_)))
  clear z
  clear j
  refine cD rfl (fun q=> ?_) fun q=> ?_
  ·have hwl:=Nat.le_trans (DJ (l.take i) s) (List.length_take_le i l)
   have ak:(renC (l.getD (i) (([],0):List UInt8 × Nat))).length=2:=(RG.elem (hl.keep hE) (([],0):List UInt8 × Nat) (by omega))
   refine gS (Yk.atRG Bn CT (by decide) (([],0):List UInt8 × Nat) (RG.of (hl.keep hE) f) c (by omega) fun al k=>(gS (Yk.loadPR (PR.of k rfl) (Qd).choose_spec rfl (by rw[Fg];exact Oe) (gS (Yk.lit1G (a:=(l.getD (i) (([],0):List UInt8 × Nat))) (enc:=renC) (vr (.agg (renC (l.getD (i) (([],0):List UInt8 × Nat))).toArray) rfl) (Fg _) Hh fun ae af aa t=> ?_)))))
   have k:=PR.keep k t
   have hE:=hE.trans t
   have hr_r:=hr_r.keep t
   refine gS (Yk.appendRG _ _ w.heap.size _ 24 Bn rd1_ig83.choose_spec.1 rd1_ig83.choose_spec.2 Bn (woD (l.take i) s) ([(l.getD (i) (([],0):List UInt8 × Nat))]) (OG.of hr_r g) (RG.of aa (vr ae rfl)) (fun _ _=>CG) (by rw[List.length_singleton];show(woD (l.take i) s).length+1≤281474976710656;omega) (by rw[List.length_singleton];show((woD (l.take i) s).length+1)*24≤140737488355328;omega) hE.size fun ab ag ah u=> ?_)
   have u:Grew af ag r ab:= .eqv g u
   have hE:=Ag hE u hr_r.2 (Nat.le_refl _)
   clear k
   clear aa
   clear hr_r
   refine gS (Yk.bin (xv:=NI i) (yv:=NI 1) c rfl rfl (Ap _ _ _ (by omega)) (gK (And.intro ⟨i+1,ab,f,o,y,rfl,rfl,hE,Bk ah ((wo_ne hlt q)),by omega,trivial⟩ ?_)))
   show l.length-(intOf (NI ((i)+(1)))).toNat<l.length-(intOf (x 6)).toNat
   rw[q6]
   simp only[intOf,Int.toNat_natCast];omega
  refine gS (Yk.bin (xv:=NI i) (yv:=NI 1) c rfl rfl (Ap _ _ _ (by omega)) (gK (And.intro ⟨i+1,r,f,o,y,rfl,g,hE,Bk hr_r ((SX hlt q)),by omega,trivial⟩ ?_)))
  show l.length-(intOf (NI ((i)+(1)))).toNat<l.length-(intOf (x 6)).toNat
  rw[q6]
  simp only[intOf,Int.toNat_natCast];omega
 have hie:i=l.length:=by have h:=p;omega
 refine AX rfl g ?_
 have h:=hr_r
 rw[hie,List.take_length]at h
 exact⟨_,rfl,OG.low h hlw0,hE⟩

theorem FG(w:World)(v:Value)(l:Ba)(a:AM)(hl:RG 2 (renC) w v l)(hll:l.length<1099511627776):
  Calls Tryz.prog 63 #[v, .agg (racC a).toArray] w fun e w' =>∃v',e = .returned v' ∧OG w.heap.size 83 2 (renC) w' v' (turnD l a)∧Ext w w' :=by
 refine gG (args:= [v, .agg (racC a).toArray]) Tryz.func63 rfl 55 rfl rfl ?_
 have hE:=Ext.refl w
 refine gS (Yk.box (cs:=(racC a:List Value).toArray) (vr (.agg (racC a).toArray) rfl) fun x w3 co a8 bx cp=> ?_)
 have c:=a8;clear a8
 have cq:x<w3.heap.size:=by omega
 refine gS (Yk.fieldAt Ll rfl (gS (Yk.cell1 Io rfl rfl (cellAt c (Sx a)) ?_)))
 have j:=Ext.refl w3
 have hE:=hE.trans bx
 have cr:=hE.size
 refine gS (Yk.callA2 Kp rfl rfl ((GX _ v (l) a.frm (hl.keep hE) (hll)).mono ?_))
 rintro e a0 ⟨y,rfl,g,ax⟩
 refine⟨_,rfl,?_⟩
 have c:=eb ax c
 refine gS (Yk.fieldAt DK rfl (gS (Yk.cell1 Io rfl rfl (cellAt c (Gv a)) (gS (Yk.lenSt (l:=a.to) Io rfl (gS (Yk.eqI (a:=((a.to:List UInt8).length:Nat)) (b:=(0:Nat)) rfl rfl (AY _ _ _ _) ?_)))))))
 refine cD rfl (fun ay=> ?_) fun ay=> ?_
 ·refine AX rfl (vr y rfl) ?_
  have h:=g
  have hE:=hE.trans ax
  exact⟨_,rfl,by rw[show turnD l a=woD l a.frm from if_pos ay];exact OG.low h (by omega),hE⟩
 refine gS (Yk.fieldAt DK rfl (gS (Yk.cell1 Io rfl rfl (cellAt c (Gv a)) ?_)))
 have n:=Ext.refl a0
 have hE:=hE.trans ax
 have ct:=hE.size
 have j:=j.trans ax
 have cu:=j.size
 refine gS (Yk.callA2 Kp rfl rfl ((GX _ y (woD (l) a.frm) a.to (RG.ofOwn g) (Nat.lt_of_le_of_lt (DJ _ _) hll)).mono ?_))
 rintro e cv ⟨ac,rfl,f,au⟩
 refine⟨_,rfl,?_⟩
 have hml:=Nat.le_trans (DJ (woD l a.frm) a.to) (DJ l a.frm)
 have hE:=hE.trans au
 have c:=eb au c
 have j:=j.trans au
 have g:=g.keep au
 have n:=n.trans au
 refine gL (fun(ρ:Ai) (wz:World)=>∃i:Nat,ρ 0=(v:Value)∧ρ 1=(.agg (racC a).toArray:Value)∧ρ 3=(PQ x 0:Value)∧ρ 4=((Value.slice none 0 0):Value)∧ρ 5=(ac:Value)∧ρ 6=(NI i:Value)∧Ext w wz∧wz.heap[x]? =some (.cells (racC a).toArray 114 (0,0))∧Ext w3 wz∧OG w3.heap.size 83 2 (renC) wz y (woD (l) a.frm)∧Ext a0 wz∧OG a0.heap.size 83 2 (renC) wz ac (woD (woD (l) a.frm) a.to)∧(i≤(woD (woD l a.frm) a.to).length)∧(∀e∈(woD (woD l a.frm) a.to).take i,Op.bytesLess e.1 a.to=true)∧True) (fun ρ _=>(woD (woD l a.frm) a.to).length-(intOf (ρ 6)).toNat) ⟨0,rfl,rfl,rfl,rfl,rfl,rfl,hE,c,j,g,n,f,Nat.zero_le _,(fun _ h=>by cases h),trivial⟩ ?_
 clear hE c j g n f
 rintro bz cw ⟨i,T0,T1,T3,T4,T5,z,hE,c,j,g,n,f,hi,hq,-⟩
 have q6:=z
 by_cases hlt:i<(woD (woD l a.frm) a.to).length
 ·refine B5 [0,1,2,3,4,5,6,7,8,9,10,11,12,13] [] [] fun ae u=> ?_
  have f:=f.keep u
  refine ys (Yk.lenRG Bn (RG.of (RG.ofOwn f) T5) zz) (ys (Yk.eqI (a:=(i:Nat)) (b:=((woD (woD (l) a.frm) a.to).length:Nat)) z rfl (AO _ _ _ _) zz) (kT (hlt) ?_))
  have cx:(renC ((woD (woD (l) a.frm) a.to).getD (i) (([],0):List UInt8 × Nat))).length=2:=(RG.elem (RG.ofOwn f) (([],0):List UInt8 × Nat) (by omega))
  refine yA (Yk.atRG Bn CT (by decide) (([],0):List UInt8 × Nat) (RG.of (RG.ofOwn f) T5) z (by omega) fun cy a9=>(yF (m:=1) FF (PR.of a9 rfl) fun b3 az=> ?_))
  have az:PCell (St (((woD (woD (l) a.frm) a.to).getD (i) (([],0):List UInt8 × Nat)).1)) b3 ae:=PR.pcell ((Gu ((woD (woD (l) a.frm) a.to).getD (i) (([],0):List UInt8 × Nat)))▸az)
  have c:=eb u c
  refine ys (Yk.loadC Io rfl (PCell.of az rfl) zz) (ys (Yk.fieldAt DK T3 zz) (ys (Yk.cell1 Io rfl rfl (cellAt c (Gv a)) zz) (ys (Yk.ltSt (l:=((woD (woD (l) a.frm) a.to).getD (i) (([],0):List UInt8 × Nat)).1) (m:=a.to) (.inl rfl) rfl rfl (Op.bytesLess (((woD (woD (l) a.frm) a.to).getD (i) (([],0):List UInt8 × Nat)).1) a.to) rfl zz) (ys (Yk.pickT rfl rfl zz) ?_))))
  clear a9
  clear az
  refine cB (Op.bytesLess (((woD (woD (l) a.frm) a.to).getD (i) (([],0):List UInt8 × Nat)).1) a.to) rfl (fun a1=> ?_) fun a1=> ?_
  ·have hE:=hE.trans u
   have j:=j.trans u
   have g:=g.keep u
   have n:=n.trans u
   refine gS (Yk.bin (xv:=NI i) (yv:=NI 1) z rfl rfl (Ap _ _ _ (by omega)) (gK (And.intro ⟨i+1,T0,T1,T3,T4,T5,rfl,hE,c,j,g,n,f,by omega,lt_step hlt hq a1,trivial⟩ ?_)))
   show(woD (woD l a.frm) a.to).length-(intOf (NI ((i)+(1)))).toNat<(woD (woD l a.frm) a.to).length-(intOf (bz 6)).toNat
   rw[q6]
   simp only[intOf,Int.toNat_natCast];omega
  have hins:=LR (k:=a.file) hi hq (.inr ⟨hlt,a1⟩)
  have hwl:=Nat.le_trans (DJ (woD l a.frm) a.to) (DJ l a.frm)
  have s:=Ext.refl ae
  have hE:=hE.trans u
  have a2:=hE.size
  have j:=j.trans u
  have a3:=j.size
  have n:=n.trans u
  have a4:=n.size
  have hrow0:OG ae.heap.size 83 2 (renC) ae (Value.slice none 0 0) ([]:List (List UInt8 × Nat)):=OG.nil _ _ _ _ _
  have ba:Value.ownBlock (Value.slice none 0 0)≠some x:=fun e_=>by cases e_
  have bb:Ak (Value.slice none 0 0) y:=fun k_ e_=>by cases e_
  have bc:Ak (Value.slice none 0 0) ac:=fun k_ e_=>by cases e_
  refine gS (Yk.sliceHiW Bn CT T5 (RG.ofOwn f) z (by omega) fun b4 bd ha64=>(gS (Yk.appendRG _ _ ae.heap.size _ 24 Bn rd1_ig83.choose_spec.1 rd1_ig83.choose_spec.2 Bn ([]) ((woD (woD (l) a.frm) a.to).take (i)) (OG.of hrow0 (vr (Value.slice none 0 0) rfl)) (RG.of bd (vr b4 rfl)) (fun _ _=>CG) (by simp only[List.length_append,List.length_take,List.length_drop,List.length_nil,List.length_singleton,List.length_cons];omega) (by simp only[List.length_append,List.length_take,List.length_drop,List.length_nil,List.length_singleton,List.length_cons];omega) s.size fun al b5 af o=> ?_)))
  have o:Grew ae b5 (Value.slice none 0 0) al:=o
  have be:OB al x:=Ax o ba (bl c)
  have g:=g.keep u
  have bf:Ak al y:=AH o bb g.2
  have bg:Ak al ac:=AH o bc f.2
  have hE:=Ag hE o hrow0.2 a2
  have c:=Am c o ba
  have j:=Ag j o hrow0.2 a3
  have g:=Av g o bb
  have n:=Ag n o hrow0.2 a4
  have f:=Av f o bc
  have s:=Ag s o hrow0.2 (Nat.le_refl _)
  clear bd
  clear hrow0
  refine gS (Yk.fieldAt DK T3 (gS (Yk.cell1 Io rfl rfl (cellAt c (Gv a)) (gS (Yk.fieldAt GW T3 (gS (Yk.cell1 Pb rfl rfl (cellAt c (N9 a)) (gS (Yk.build2 (vr (St (a.to)) rfl) (vr (NI a.file) rfl) (fun w=>Gy a.to a.file w) (gS (Yk.lit1G (a:=(⟨a.to,a.file⟩:List UInt8 × Nat)) (enc:=renC) (vr (.agg (renC (⟨a.to,a.file⟩:List UInt8 × Nat)).toArray) rfl) (Fg _) Hh fun b6 b7 bh ag=> ?_)))))))))))
  have s:=s.trans ag
  have af:=af.keep ag
  refine gS (Yk.appendRG _ _ ae.heap.size _ 24 Bn rd1_ig83.choose_spec.1 rd1_ig83.choose_spec.2 Bn (([])++(woD (woD (l) a.frm) a.to).take (i)) ([(⟨a.to,a.file⟩:List UInt8 × Nat)]) (OG.of af (vr al rfl)) (RG.of bh (vr b6 rfl)) (fun _ _=>CG) (by simp only[List.length_append,List.length_take,List.length_drop,List.length_nil,List.length_singleton,List.length_cons];omega) (by simp only[List.length_append,List.length_take,List.length_drop,List.length_nil,List.length_singleton,List.length_cons];omega) s.size fun am bi an p=> ?_)
  have p:Grew b7 bi al am:=p
  have c:=eb ag c
  have b8:OB am x:=Ax p be (bl c)
  have g:=g.keep ag
  have b9:Ak am y:=AH p bf g.2
  have f:=f.keep ag
  have ca:Ak am ac:=AH p bg f.2
  have hE:=hE.trans ag
  have hE:=Ag hE p af.2 a2
  have c:=Am c p be
  have j:=j.trans ag
  have j:=Ag j p af.2 a3
  have g:=Av g p bf
  have n:=n.trans ag
  have n:=Ag n p af.2 a4
  have f:=Av f p bg
  have s:=Ag s p af.2 (Nat.le_refl _)
  clear bh
  clear af
  refine gS (Yk.sliceLoW Bn CT T5 (RG.ofOwn f) z (by omega) fun cb bj ha91=>(gS (Yk.appendRG _ _ ae.heap.size _ 24 Bn rd1_ig83.choose_spec.1 rd1_ig83.choose_spec.2 Bn ((([])++(woD (woD (l) a.frm) a.to).take (i))++ [(⟨a.to,a.file⟩:List UInt8 × Nat)]) ((woD (woD (l) a.frm) a.to).drop (i)) (OG.of an (vr am rfl)) (RG.of bj (vr cb rfl)) (fun _ _=>CG) (by simp only[List.length_append,List.length_take,List.length_drop,List.length_nil,List.length_singleton,List.length_cons];omega) (by simp only[List.length_append,List.length_take,List.length_drop,List.length_nil,List.length_singleton,List.length_cons];omega) s.size fun bk cc cd aa=> ?_)))
  have aa:Grew bi cc am bk:=aa
  have hE:=Ag hE aa an.2 a2
  have c:=Am c aa b8
  have j:=Ag j aa an.2 a3
  have g:=Av g aa b9
  have n:=Ag n aa an.2 a4
  have f:=Av f aa ca
  have s:=Ag s aa an.2 (Nat.le_refl _)
  clear bj
  clear an
  refine AX rfl (vr bk rfl) ?_
  have h:=cd
  have e9:turnD l a=DQ (woD (woD l a.frm) a.to) a.to a.file:=if_neg ay
  rw[←hins]at e9
  exact⟨_,rfl,by rw[e9];exact OG.low (Bk h (by simp)) (by omega),hE⟩
 refine B5 [0,1,2,3,4,5,6,7,8,9,10,11,12,13] [] [] fun aj ao=> ?_
 have f:=f.keep ao
 refine ys (Yk.lenRG Bn (RG.of (RG.ofOwn f) T5) zz) (ys (Yk.eqI (a:=(i:Nat)) (b:=((woD (woD (l) a.frm) a.to).length:Nat)) z rfl (AO _ _ _ _) zz) (kF (hlt) (ys (Yk.pickF rfl rfl zz) (cF rfl ?_))))
 have hins:=LR (k:=a.file) hi hq (.inl (by omega))
 have hwl:=Nat.le_trans (DJ (woD l a.frm) a.to) (DJ l a.frm)
 have t:=Ext.refl aj
 have hE:=hE.trans ao
 have a5:=hE.size
 have j:=j.trans ao
 have a6:=j.size
 have n:=n.trans ao
 have a7:=n.size
 have hrow0:OG aj.heap.size 83 2 (renC) aj (Value.slice none 0 0) ([]:List (List UInt8 × Nat)):=OG.nil _ _ _ _ _
 have bm:Value.ownBlock (Value.slice none 0 0)≠some x:=fun e_=>by cases e_
 have bn:Ak (Value.slice none 0 0) y:=fun k_ e_=>by cases e_
 have bo:Ak (Value.slice none 0 0) ac:=fun k_ e_=>by cases e_
 refine gS (Yk.sliceHiW Bn CT T5 (RG.ofOwn f) z (by omega) fun ce bp ha121=>(gS (Yk.appendRG _ _ aj.heap.size _ 24 Bn rd1_ig83.choose_spec.1 rd1_ig83.choose_spec.2 Bn ([]) ((woD (woD (l) a.frm) a.to).take (i)) (OG.of hrow0 (vr (Value.slice none 0 0) rfl)) (RG.of bp (vr ce rfl)) (fun _ _=>CG) (by simp only[List.length_append,List.length_take,List.length_drop,List.length_nil,List.length_singleton,List.length_cons];omega) (by simp only[List.length_append,List.length_take,List.length_drop,List.length_nil,List.length_singleton,List.length_cons];omega) t.size fun ap cf ah q=> ?_)))
 have q:Grew aj cf (Value.slice none 0 0) ap:=q
 have c:=eb ao c
 have bq:OB ap x:=Ax q bm (bl c)
 have g:=g.keep ao
 have br:Ak ap y:=AH q bn g.2
 have bs:Ak ap ac:=AH q bo f.2
 have hE:=Ag hE q hrow0.2 a5
 have c:=Am c q bm
 have j:=Ag j q hrow0.2 a6
 have g:=Av g q bn
 have n:=Ag n q hrow0.2 a7
 have f:=Av f q bo
 have t:=Ag t q hrow0.2 (Nat.le_refl _)
 clear bp
 clear hrow0
 refine gS (Yk.fieldAt DK T3 (gS (Yk.cell1 Io rfl rfl (cellAt c (Gv a)) (gS (Yk.fieldAt GW T3 (gS (Yk.cell1 Pb rfl rfl (cellAt c (N9 a)) (gS (Yk.build2 (vr (St (a.to)) rfl) (vr (NI a.file) rfl) (fun w=>Gy a.to a.file w) (gS (Yk.lit1G (a:=(⟨a.to,a.file⟩:List UInt8 × Nat)) (enc:=renC) (vr (.agg (renC (⟨a.to,a.file⟩:List UInt8 × Nat)).toArray) rfl) (Fg _) Hh fun cg ch bt ai=> ?_)))))))))))
 have t:=t.trans ai
 have ah:=ah.keep ai
 refine gS (Yk.appendRG _ _ aj.heap.size _ 24 Bn rd1_ig83.choose_spec.1 rd1_ig83.choose_spec.2 Bn (([])++(woD (woD (l) a.frm) a.to).take (i)) ([(⟨a.to,a.file⟩:List UInt8 × Nat)]) (OG.of ah (vr ap rfl)) (RG.of bt (vr cg rfl)) (fun _ _=>CG) (by simp only[List.length_append,List.length_take,List.length_drop,List.length_nil,List.length_singleton,List.length_cons];omega) (by simp only[List.length_append,List.length_take,List.length_drop,List.length_nil,List.length_singleton,List.length_cons];omega) t.size fun aq bu ar r=> ?_)
 have r:Grew ch bu ap aq:=r
 have c:=eb ai c
 have ci:OB aq x:=Ax r bq (bl c)
 have g:=g.keep ai
 have cj:Ak aq y:=AH r br g.2
 have f:=f.keep ai
 have ck:Ak aq ac:=AH r bs f.2
 have hE:=hE.trans ai
 have hE:=Ag hE r ah.2 a5
 have c:=Am c r bq
 have j:=j.trans ai
 have j:=Ag j r ah.2 a6
 have g:=Av g r br
 have n:=n.trans ai
 have n:=Ag n r ah.2 a7
 have f:=Av f r bs
 have t:=Ag t r ah.2 (Nat.le_refl _)
 clear bt
 clear ah
 refine gS (Yk.sliceLoW Bn CT T5 (RG.ofOwn f) z (by omega) fun cl bv ha148=>(gS (Yk.appendRG _ _ aj.heap.size _ 24 Bn rd1_ig83.choose_spec.1 rd1_ig83.choose_spec.2 Bn ((([])++(woD (woD (l) a.frm) a.to).take (i))++ [(⟨a.to,a.file⟩:List UInt8 × Nat)]) ((woD (woD (l) a.frm) a.to).drop (i)) (OG.of ar (vr aq rfl)) (RG.of bv (vr cl rfl)) (fun _ _=>CG) (by simp only[List.length_append,List.length_take,List.length_drop,List.length_nil,List.length_singleton,List.length_cons];omega) (by simp only[List.length_append,List.length_take,List.length_drop,List.length_nil,List.length_singleton,List.length_cons];omega) t.size fun bw cm cn ab=> ?_)))
 have ab:Grew bu cm aq bw:=ab
 have hE:=Ag hE ab ar.2 a5
 have c:=Am c ab ci
 have j:=Ag j ab ar.2 a6
 have g:=Av g ab cj
 have n:=Ag n ab ar.2 a7
 have f:=Av f ab ck
 have t:=Ag t ab ar.2 (Nat.le_refl _)
 clear bv
 clear ar
 refine AX rfl (vr bw rfl) ?_
 have h:=cn
 have e9:turnD l a=DQ (woD (woD l a.frm) a.to) a.to a.file:=if_neg ay
 rw[←hins]at e9
 exact⟨_,rfl,by rw[e9];exact OG.low (Bk h (by simp)) (by omega),hE⟩
open Go.RowKit
set_option maxRecDepth 100000
set_option linter.unusedVariables false
set_option linter.unusedSimpArgs false
def V0:Cn:=⟨.slice none 0 0, .slice none 0 0, .slice none 0 0, .slice none 0 0, .slice none 0 0⟩
theorem Og{l:Ba}{i:Nat}(h:i<l.length):(l.take i).map Prod.fst++ [(l.getD i ([],0)).1]=(l.take (i+1)).map Prod.fst:=by
 rw[List.take_succ_eq_append_getElem h,List.map_append,List.getD_eq_getElem?_getD,List.getElem?_eq_getElem h]
 rfl
def AK(q:Int):Au:=(⟨false,q,[],[],[],[],[],0,0,false⟩,⟨.slice none 0 0, .slice none 0 0, .slice none 0 0, .slice none 0 0, .slice none 0 0⟩)
theorem C5{α β:Type}{f:α→β}{l:List α}{k:Nat}{d:α}{d2:β}(h:d2=f d):(l.map f).getD k d2=f (l.getD k d):=by
 rw[List.getD_eq_getElem?_getD,List.getD_eq_getElem?_getD,List.getElem?_map,h]
 cases l[k]? <;> rfl
theorem Qf{α:Type}{l:List α}{f:α→Nat}{i:Nat}(d:α)(h:i<l.length):(((l.take (i+1)).map f).sum=((l.take i).map f).sum+f (l.getD i d))∧((l.take i).map f).sum+f (l.getD i d)≤(l.map f).sum:=by
 have h1:((l.take (i+1)).map f).sum=((l.take i).map f).sum+f (l.getD i d):=by
  rw[List.take_succ_eq_append_getElem h,List.map_append,List.sum_append,List.getD_eq_getElem?_getD,List.getElem?_eq_getElem h]
  simp
 refine⟨h1,?_⟩
 rw[←h1]
 have h2:(l.map f).sum=((l.take (i+1)).map f).sum+((l.drop (i+1)).map f).sum:=by rw[←List.sum_append,←List.map_append,List.take_append_drop]
 omega
def Kq(D:An)(i:Nat):Nat:=((D.now.take i).map fun e=>(AJ D e.2).1.length).sum
theorem Qg{D:An}{i:Nat}(h:i<D.now.length):Kq D (i+1)=Kq D i+(AJ D (D.now.getD i ([],0)).2).1.length∧Kq D i+(AJ D (D.now.getD i ([],0)).2).1.length≤usedD D:=Qf (f:=fun e:List UInt8 × Nat=>(AJ D e.2).1.length) ([],0) h
theorem RL(D:An):Kq D D.now.length=usedD D:=by unfold Kq;rw[List.take_length];rfl
theorem Kr{l:List Int}{i n:Nat}(h:i<l.length):Bd l i n=(Int.emod (l.getD i 0) ((n:Nat):Int)).toNat:=if_pos h
theorem Ks{α:Type}{l m:List α}{i:Nat}(d:α)(h:i<l.length)(k:i<m.length)(hq:l.take i=m.take i)(he:l.getD i d=m.getD i d):l.take (i+1)=m.take (i+1):=by
 rw[List.take_succ_eq_append_getElem h,List.take_succ_eq_append_getElem k,hq]
 rw[List.getD_eq_getElem?_getD,List.getElem?_eq_getElem h,List.getD_eq_getElem?_getD,List.getElem?_eq_getElem k]at he
 rw[show l[i]=m[i]from he]
theorem Dc:A3 Tryz.prog 31 0 0:=fun b o w=>by simp[go_sem]
theorem DE:A3 Tryz.prog 31 9 9:=fun b o w=>by simp[go_sem]
theorem EM:Plain Tryz.prog 87:=fun _ _=>by kernel_rfl
theorem Ct:A3 Tryz.prog 31 4 4:=fun b o w=>by simp[go_sem]
theorem H5:A3 Tryz.prog 31 2 2:=fun b o w=>by simp[go_sem]
theorem Ku{d:Option Tmp}{ty:TypeId}{pos:String}{af:Array Edge}{gd:Option (Nat × Bool)}(σ:Operand→Value)(w:World):(execOp σ ⟨d, .alloc 31,ty,pos,af,gd⟩).run Tryz.prog w = .ok (.value (PQ w.heap.size 0)) (w.alloc (.cells (rdkC ((⟨false,0,[],[],[],[],[],0,0,false⟩,⟨.slice none 0 0, .slice none 0 0, .slice none 0 0, .slice none 0 0, .slice none 0 0⟩):Au)).toArray 31)):=by kernel_rfl
theorem Jx(z0:Bool)(z1:Int)(w:World):(Instr.build 31 #[(0, .bool z0),(1, .int .i64 z1)]).run Tryz.prog w = .ok (.agg #[.bool z0, .int .i64 z1, .slice none 0 0, .slice none 0 0, .slice none 0 0, .slice none 0 0, .slice none 0 0, .int .i64 0, .int .i64 0, .bool false]) w:=by kernel_rfl
theorem EN(z0:Bool)(z1:Int)(w:World):(Instr.build 31 #[(0, .bool z0),(1, .int .i64 z1)]).run Tryz.prog w = .ok (.agg (.bool (z0) :: (.int .i64 (z1) :: ((Value.slice none 0 0) :: ((Value.slice none 0 0) :: ((Value.slice none 0 0) :: ((Value.slice none 0 0) :: ((Value.slice none 0 0) :: (NI (0) :: (NI (0) :: (.bool (false) :: ([]))))))))))).toArray) w:=by
 exact Jx _ _ w
theorem FH:∃fs,Tryz.prog.underlying 31=some (.struct fs):=Es (by kernel_rfl)
theorem E0:(Tryz.prog.info? 31).map (·.size)=some 10:=by kernel_rfl
theorem EO:GP Tryz.prog 31 rdkC:=⟨⟨_,(FH).choose_spec⟩,fun x=>AN (Ay x) E0⟩
theorem rd2_ig9:∃z,(Tryz.prog.info? 9).map (fun i=>(i.zero,i.size,i.bytes))=some (some z,1,16)∧z.cells.size=1:=Eg (by kernel_rfl)
theorem Kv:Plain Tryz.prog 58:=fun _ _=>by kernel_rfl
theorem Kw:Plain Tryz.prog 62:=fun _ _=>by kernel_rfl
set_option maxHeartbeats 1600000
theorem CW(w:World)(v:Value)(l:Ba)(s:List UInt8)(z:Int)(hl:RG 2 (renC) w v l)(hll:l.length<1099511627776)(hz:GL l s=z):
  Calls Tryz.prog 62 #[v,St s] w fun e w' =>e = .returned (.int .i64 z)∧Ext w w' :=by
 subst hz
 exact Of w v l s hl hll

theorem Qh(w:World)(s:List UInt8):
  Calls Tryz.prog 87 #[St s] w fun e w' =>e = .returned (.bool (Bu s))∧Ext w w' :=by
 refine gG (args:= [St (s)]) Tryz.func87 rfl 11 rfl rfl ?_
 have hE:=Ext.refl w
 by_cases h1:1≤s.length
 ·refine gS (Yk.lenSt (l:=s) Io rfl (gS (Yk.eqI (a:=(s.length:Nat)) (b:=(1:Nat)) rfl rfl (CX _ _ _ _) (kT (h1) (gS (Yk.lenSt (l:=s) Io rfl (gS (Yk.eqI (a:=(s.length:Nat)) (b:=(80:Nat)) rfl rfl (Ey _ _ _ _) (gS (Yk.pickT rfl rfl (AX rfl (vr (.bool (decide ((s.length)≤(80)))) rfl) ?_)))))))))))
  exact⟨by unfold Bu;rw[decide_eq_true h1];rfl,hE⟩
 refine gS (Yk.lenSt (l:=s) Io rfl (gS (Yk.eqI (a:=(s.length:Nat)) (b:=(1:Nat)) rfl rfl (CX _ _ _ _) (kF (h1) (gS (Yk.pickF rfl rfl (AX rfl (vr (.bool (false)) rfl) ?_)))))))
 exact⟨by unfold Bu;rw[decide_eq_false h1];rfl,hE⟩

theorem Fj(w:World)(s:List UInt8)(b:Bool)(h:Bu s=b):
  Calls Tryz.prog 87 #[St s] w fun e w' =>e = .returned (.bool b)∧Ext w w' :=by
 subst h
 exact Qh w s

theorem E1{P:Nat→Prop}(w:World)(D:An)(V:Cn)(hR:RdAt P w D V)(a b:List UInt8):
  Calls Tryz.prog 58 #[.agg (rdkC (Ac D,V)).toArray,St a,St b] w fun e w' =>e = .returned (NI (A6 D a b))∧Ext w w' :=by
 obtain⟨vs,hvs,hfiles0⟩:=hR.files
 have hfiles:=hfiles0.1
 have hsynced:=hR.synced.1
 have hnow:=hR.now.1
 have hkept:=hR.kept.1
 have hacts:=hR.acts.1
 refine gG (args:= [.agg (rdkC (Ac D,V)).toArray,St (a),St (b)]) Tryz.func58 rfl 20 rfl rfl ?_
 have hE:=Ext.refl w
 refine gS (Yk.box (cs:=(rdkC (Ac D,V):List Value).toArray) (vr (.agg (rdkC (Ac D,V)).toArray) rfl) fun h i o g f p=> ?_)
 have c:=g;clear g
 have q:h<i.heap.size:=by omega
 cases hd:D.down
 ·cases hm:Bu a
  ·refine gS (Yk.fieldAt Dc rfl (gS (Yk.cell1 Q3 rfl rfl (cellAt c (Dy (Ac D,V))) (gS (Yk.notB rfl (cF rfl (gS (Yk.fieldAt DE rfl (gS (Yk.cell1 Q3 rfl rfl (cellAt c (EL (Ac D,V))) (cF ((rfl).trans (congrArg Value.bool (hd))) (gS (Yk.callA1 EM rfl ((Fj _ a false hm).mono ?_))))))))))))))
   rintro e r ⟨rfl,j⟩
   refine⟨_,rfl,?_⟩
   refine gS (Yk.notB rfl (gS (Yk.pickT rfl rfl (cT rfl (AX rfl (vr (NI 10) rfl) ?_)))))
   have hE:=hE.trans (f.trans j)
   exact⟨by rw[show A6 D a b=10 from(if_neg (by rw[hd];decide)).trans (if_neg (by rw[hm];simp))],hE⟩
  cases hm2:Bu b
  ·refine gS (Yk.fieldAt Dc rfl (gS (Yk.cell1 Q3 rfl rfl (cellAt c (Dy (Ac D,V))) (gS (Yk.notB rfl (cF rfl (gS (Yk.fieldAt DE rfl (gS (Yk.cell1 Q3 rfl rfl (cellAt c (EL (Ac D,V))) (cF ((rfl).trans (congrArg Value.bool (hd))) (gS (Yk.callA1 EM rfl ((Fj _ a true hm).mono ?_))))))))))))))
   rintro e s ⟨rfl,k⟩
   refine⟨_,rfl,?_⟩
   refine gS (Yk.notB rfl (gS (Yk.callA1 EM rfl ((Fj _ b false hm2).mono ?_))))
   rintro e t ⟨rfl,l⟩
   refine⟨_,rfl,?_⟩
   refine gS (Yk.notB rfl (gS (Yk.pickF rfl rfl (cT rfl (AX rfl (vr (NI 10) rfl) ?_)))))
   have hE:=hE.trans ((f.trans k).trans l)
   exact⟨by rw[show A6 D a b=10 from(if_neg (by rw[hd];decide)).trans (if_neg (by rw[hm2];simp))],hE⟩
  refine gS (Yk.fieldAt Dc rfl (gS (Yk.cell1 Q3 rfl rfl (cellAt c (Dy (Ac D,V))) (gS (Yk.notB rfl (cF rfl (gS (Yk.fieldAt DE rfl (gS (Yk.cell1 Q3 rfl rfl (cellAt c (EL (Ac D,V))) (cF ((rfl).trans (congrArg Value.bool (hd))) (gS (Yk.callA1 EM rfl ((Fj _ a true hm).mono ?_))))))))))))))
  rintro e u ⟨rfl,m⟩
  refine⟨_,rfl,?_⟩
  refine gS (Yk.notB rfl (gS (Yk.callA1 EM rfl ((Fj _ b true hm2).mono ?_))))
  rintro e v ⟨rfl,n⟩
  refine⟨_,rfl,?_⟩
  refine gS (Yk.notB rfl (gS (Yk.pickF rfl rfl (cF rfl (AX rfl (vr (NI 0) rfl) ?_)))))
  have hE:=hE.trans ((f.trans m).trans n)
  exact⟨by rw[show A6 D a b=0 from(if_neg (by rw[hd];decide)).trans (if_pos ⟨hm,hm2⟩)],hE⟩
 refine gS (Yk.fieldAt Dc rfl (gS (Yk.cell1 Q3 rfl rfl (cellAt c (Dy (Ac D,V))) (gS (Yk.notB rfl (cF rfl (gS (Yk.fieldAt DE rfl (gS (Yk.cell1 Q3 rfl rfl (cellAt c (EL (Ac D,V))) (cT ((rfl).trans (congrArg Value.bool (hd))) (AX rfl (vr (NI 9) rfl) ?_))))))))))))
 have hE:=hE.trans f
 exact⟨by rw[show A6 D a b=9 from if_pos hd],hE⟩

theorem FI(w:World)(q:Int)(a b:List UInt8):
  Calls Tryz.prog 58 #[.agg (rdkC (AK q)).toArray,St a,St b] w fun e w' =>e = .returned (NI 1)∧Ext w w' :=by
 refine gG (args:= [.agg (rdkC (AK q)).toArray,St (a),St (b)]) Tryz.func58 rfl 20 rfl rfl ?_
 have hE:=Ext.refl w
 refine gS (Yk.box (cs:=(rdkC (AK q):List Value).toArray) (vr (.agg (rdkC (AK q)).toArray) rfl) fun f g j c h k=> ?_)
 have i:=c;clear c
 have l:f<g.heap.size:=by omega
 refine gS (Yk.fieldAt Dc rfl (gS (Yk.cell1 Q3 rfl rfl (cellAt i (Dy (AK q))) (gS (Yk.notB rfl (cT rfl (AX rfl (vr (NI 1) rfl) ?_)))))))
 have hE:=hE.trans h
 exact⟨rfl,hE⟩

theorem Qi{P:Nat→Prop}(w:World)(D:An)(V:Cn)(hR:RdAt P w D V)(hok:DOk D)(hL:Co D):
  Calls Tryz.prog 60 #[.agg (rdkC (Ac D,V)).toArray] w fun e w' =>e = .returned (NI (usedD D))∧Ext w w' :=by
 obtain⟨vs,hvs,hfiles0⟩:=hR.files
 have hfiles:=hfiles0.1
 have hsynced:=hR.synced.1
 have hnow:=hR.now.1
 have hkept:=hR.kept.1
 have hacts:=hR.acts.1
 refine gG (args:= [.agg (rdkC (Ac D,V)).toArray]) Tryz.func60 rfl 26 rfl rfl ?_
 have hE:=Ext.refl w
 refine gS (Yk.box (cs:=(rdkC (Ac D,V):List Value).toArray) (vr (.agg (rdkC (Ac D,V)).toArray) rfl) fun k s aa n t ab=> ?_)
 have c:=n;clear n
 have ac:k<s.heap.size:=by omega
 have hE:=hE.trans t
 refine gL (fun(ρ:Ai) (wz:World)=>∃i:Nat,ρ 0=(.agg (rdkC (Ac D,V)).toArray:Value)∧ρ 1=(PQ k 0:Value)∧ρ 2=(NI 0:Value)∧ρ 4=(NI i:Value)∧ρ 3=(NI (Kq D i):Value)∧Ext w wz∧wz.heap[k]? =some (.cells (rdkC (Ac D,V)).toArray 31 (0,0))∧(i≤D.now.length)∧True) (fun ρ _=>D.now.length-(intOf (ρ 4)).toNat) ⟨0,rfl,rfl,rfl,rfl,rfl,hE,c,Nat.zero_le _,trivial⟩ ?_
 clear hE c
 rintro u ad ⟨i,v,f,x,g,o,hE,c,hi,-⟩
 have q4:=g
 refine gS (Yk.fieldAt Ct f (gS (Yk.cell1 Bn rfl rfl (cellAt c (BU (Ac D,V))) (gS (Yk.lenRG Bn (RG.of (hnow.keep hE) rfl) (gS (Yk.eqI (a:=(i:Nat)) (b:=((D.now).length:Nat)) g rfl (AO _ _ _ _) ?_)))))))
 refine cD rfl (fun l=> ?_) fun l=> ?_
 ·have hlt:i<D.now.length:=l
  have hkn:=hok.now.num _ (BD (d:=([],0)) hlt)
  have hvl:vs.length=D.files.length:=by rw[hvs.len,List.length_map]
  have hfk:=(hvs.at_ (D.now.getD (i) (([],0):List UInt8 × Nat)).2 (by rw[List.length_map];exact hkn)).1
  have hfl:((D.files.map Prod.fst).getD (D.now.getD (i) (([],0):List UInt8 × Nat)).2 []).length=(AJ D (D.now.getD (i) (([],0):List UInt8 × Nat)).2).1.length:=by rw[C5 (d:=([],0)) rfl];rfl
  have hsm:=Qg hlt
  have hul:usedD D<4611686018427387904:=hL.used
  have hnl:=hL.now
  refine B5 [0,1,2,3,4,5,6,7,8,9,10,11,12,13] [13] [] fun y p=> ?_
  have c:=eb p c
  refine ys (Yk.fieldAt H5 f zz) (ys (Yk.cell1 IY rfl rfl (cellAt c (C2 (Ac D,V))) zz) (ys (Yk.fieldAt Ct f zz) (ys (Yk.cell1 Bn rfl rfl (cellAt c (BU (Ac D,V))) zz) ?_)))
  have hE:=hE.trans p
  have ae:(renC ((D.now).getD (i) (([],0):List UInt8 × Nat))).length=2:=(RG.elem (hnow.keep hE) (([],0):List UInt8 × Nat) (by omega))
  refine yA (Yk.atRG Bn CT (by decide) (([],0):List UInt8 × Nat) (RG.of (hnow.keep hE) rfl) g (by omega) fun af q=>(yF (m:=1) MN (PR.of q rfl) fun z j=> ?_))
  have j:PCell (NI (((D.now).getD (i) (([],0):List UInt8 × Nat)).2)) z y:=PR.pcell ((HY ((D.now).getD (i) (([],0):List UInt8 × Nat)))▸j)
  refine ys (Yk.loadC Pb rfl (PCell.of j rfl) zz) ?_
  have ag:(DF (vs.getD (((D.now).getD (i) (([],0):List UInt8 × Nat)).2) undef)).length=1:=(RG.elem (hfiles.keep hE) undef (by omega))
  refine yA (Yk.atRG IY NG (by decide) undef (RG.of (hfiles.keep hE) rfl) rfl (by omega) fun ah r=>(ys (Yk.loadC S2 rfl (PR.cell (PR.of r rfl) rfl) zz) (ys (Yk.lenRB S2 (RB.of (hfk.keep hE) rfl) zz) (ys (Yk.bin (xv:=NI (Kq D i)) (yv:=NI ((((D.files.map Prod.fst).getD (D.now.getD (i) (([],0):List UInt8 × Nat)).2 []):List UInt8).length)) o rfl rfl (Ap _ _ _ (by omega)) zz) (yC (Yk.assign rfl ?_))))))
  clear q
  clear j
  clear r
  refine gS (Yk.bin (xv:=NI i) (yv:=NI 1) g rfl rfl (Ap _ _ _ (by omega)) (gK (And.intro ⟨i+1,v,f,x,rfl,(rfl).trans (congrArg NI ((congrArg (_ + ·) hfl).trans hsm.1.symm)),hE,c,by omega,trivial⟩ ?_)))
  show D.now.length-(intOf (NI ((i)+(1)))).toNat<D.now.length-(intOf (u 4)).toNat
  rw[q4]
  simp only[intOf,Int.toNat_natCast];omega
 refine AX rfl o ?_
 have hie:i=D.now.length:=by have h:=l;omega
 exact⟨by rw[hie,RL],hE⟩

theorem Kx(w:World)(v:Value)(l:List Int)(hl:RG 1 (DG) w v l)(i m:Nat)(hm:m<1099511627776)(hll:l.length<1099511627776):
  Calls Tryz.prog 67 #[v,NI i,NI (m+1)] w fun e w' =>e = .returned (NI (Bd l i (m+1)))∧Ext w w' :=by
 refine gG (args:= [v,NI i,NI (m+1)]) Tryz.func67 rfl 24 rfl rfl ?_
 have hE:=Ext.refl w
 refine gS (Yk.lenRG Du (RG.of (hl.keep hE) rfl) (gS (Yk.eqI (a:=(i:Nat)) (b:=(l.length:Nat)) rfl rfl (CX _ _ _ _) ?_)))
 refine cD rfl (fun f=> ?_) fun f=> ?_
 ·refine AX rfl (vr (NI 0) rfl) ?_
  exact⟨by rw[show Bd l i (m+1)=0 from if_neg (by omega)],hE⟩
 have hlt:i<l.length:=by have h:=f;omega
 have hbd:=EB (l.getD i 0) m
 have j:(DG (l.getD (i) (0:Int))).length=1:=(RG.elem (hl.keep hE) (0:Int) (by omega))
 refine gS (Yk.atRG Du Pt (by decide) (0:Int) (RG.of (hl.keep hE) rfl) rfl (by omega) fun k g=>(gS (Yk.loadC Pb rfl (PR.cell (PR.of g rfl) rfl) (gS (Yk.bin (xv:= .int .i64 (l.getD (i) (0:Int))) (yv:=NI (m+1)) rfl rfl rfl (Gd _ (l.getD (i) (0:Int)) ((m+1:Nat):Int) (by omega)) ?_)))))
 clear g
 refine gS (Yk.eqI rfl rfl (D3 _ .i64 ((Int.tmod (l.getD i 0) ((m+1:Nat):Int)):Int) ((0:Nat):Int)) ?_)
 refine cD rfl (fun c=> ?_) fun c=> ?_
 ·refine gS (Yk.bin (xv:= .int .i64 ((Int.tmod (l.getD i 0) ((m+1:Nat):Int)))) (yv:= .int .i64 (((m+1:Nat):Int))) rfl rfl rfl (Gc _ ((Int.tmod (l.getD i 0) ((m+1:Nat):Int))) (((m+1:Nat):Int)) (by omega)) (AX rfl (vr (.int .i64 ((((Int.tmod (l.getD i 0) ((m+1:Nat):Int)))+(((m+1:Nat):Int))):Int)) rfl) ?_))
  exact⟨congrArg (fun z=>Ending.returned (.int .i64 z)) (show _=((Bd l i (m+1):Nat):Int)from by rw[Kr hlt,LQ];exact(if_pos c).symm),hE⟩
 refine AX rfl (vr (.int .i64 ((Int.tmod (l.getD i 0) ((m+1:Nat):Int)):Int)) rfl) ?_
 exact⟨congrArg (fun z=>Ending.returned (.int .i64 z)) (show _=((Bd l i (m+1):Nat):Int)from by rw[Kr hlt,LQ];exact(if_neg c).symm),hE⟩

theorem Oh(w:World)(v f:Value)(l m:List (List UInt8))(hl:RG 1 (B1) w v l)(hm:RG 1 (B1) w f m)(hll:l.length<1099511627776):
  Calls Tryz.prog 8 #[v,f] w fun e w' =>e = .returned (.bool (decide (l=m)))∧Ext w w' :=by
 refine gG (args:= [v,f]) Tryz.func8 rfl 26 rfl rfl ?_
 have hE:=Ext.refl w
 refine gS (Yk.lenRG JV (RG.of (hl.keep hE) rfl) (gS (Yk.lenRG JV (RG.of (hm.keep hE) rfl) (gS (Yk.eqI (a:=(l.length:Nat)) (b:=(m.length:Nat)) rfl rfl (AZ _ _ _ _) ?_)))))
 refine cD rfl (fun g=> ?_) fun g=> ?_
 ·refine AX rfl (vr (.bool (false)) rfl) ?_
  exact⟨by rw[decide_eq_false (fun q=>g (congrArg List.length q))],hE⟩
 have hlen:l.length=m.length:=by have h:=g;omega
 refine gL (fun(ρ:Ai) (wz:World)=>∃i:Nat,ρ 0=(v:Value)∧ρ 1=(f:Value)∧ρ 5=(NI i:Value)∧Ext w wz∧(i≤l.length)∧(l.take i=m.take i)∧True) (fun ρ _=>l.length-(intOf (ρ 5)).toNat) ⟨0,rfl,rfl,rfl,hE,Nat.zero_le _,rfl,trivial⟩ ?_
 clear hE
 rintro s u ⟨i,j,o,c,hE,hi,hq,-⟩
 have q5:=c
 refine gS (Yk.lenRG JV (RG.of (hl.keep hE) j) (gS (Yk.eqI (a:=(i:Nat)) (b:=(l.length:Nat)) c rfl (AO _ _ _ _) ?_)))
 refine cD rfl (fun k=> ?_) fun k=> ?_
 ·have hlt:i<l.length:=k
  refine B5 [0,1,2,3,4,5,6,7,8] [] [] fun x t=> ?_
  have hE:=hE.trans t
  have y:(B1 (l.getD (i) ([]:List UInt8))).length=1:=(RG.elem (hl.keep hE) ([]:List UInt8) (by omega))
  refine yA (Yk.atRG JV O8 (by decide) ([]:List UInt8) (RG.of (hl.keep hE) j) c (by omega) fun z p=>(ys (Yk.loadC Io rfl (PR.cell (PR.of p rfl) rfl) zz) ?_))
  have aa:(B1 (m.getD (i) ([]:List UInt8))).length=1:=(RG.elem (hm.keep hE) ([]:List UInt8) (by omega))
  refine yA (Yk.atRG JV O8 (by decide) ([]:List UInt8) (RG.of (hm.keep hE) o) c (by omega) fun ab r=>(ys (Yk.loadC Io rfl (PR.cell (PR.of r rfl) rfl) zz) (ys (Yk.eqSt (l:=l.getD (i) ([]:List UInt8)) (m:=m.getD (i) ([]:List UInt8)) (.inr rfl) rfl rfl (decide ((l.getD (i) ([]:List UInt8):List UInt8)≠(m.getD (i) ([]:List UInt8):List UInt8))) rfl zz) ?_)))
  clear p
  clear r
  refine cD rfl (fun n=> ?_) fun n=> ?_
  ·refine AX rfl (vr (.bool (false)) rfl) ?_
   exact⟨by rw[decide_eq_false (fun q=>n (by rw[q]))],hE⟩
  refine gS (Yk.bin (xv:=NI i) (yv:=NI 1) c rfl rfl (Ap _ _ _ (by omega)) (gK (And.intro ⟨i+1,j,o,rfl,hE,by omega,Ks ([]:List UInt8) hlt (by omega) hq (Classical.not_not.1 n),trivial⟩ ?_)))
  show l.length-(intOf (NI ((i)+(1)))).toNat<l.length-(intOf (s 5)).toNat
  rw[q5]
  simp only[intOf,Int.toNat_natCast];omega
 refine AX rfl (vr (.bool (true)) rfl) ?_
 have hie:i=l.length:=by have h:=k;omega
 rw[hie,List.take_length,hlen,List.take_length]at hq
 exact⟨by rw[decide_eq_true hq],hE⟩

theorem Qj(w:World)(q:Nat)(hq:q≤1073741824):
  Calls Tryz.prog 6 #[NI q] w fun e w' =>e = .returned (.agg (rdkC (Ac (AT q),V0)).toArray)∧Ext w w' :=by
 refine gG (args:= [NI q]) Tryz.func6 rfl 11 rfl rfl ?_
 have hE:=Ext.refl w
 refine gS (Yk.alloc (cs:=(rdkC ((⟨false,0,[],[],[],[],[],0,0,false⟩,⟨.slice none 0 0, .slice none 0 0, .slice none 0 0, .slice none 0 0, .slice none 0 0⟩):Au)).toArray) Ku fun f i m g j n=> ?_)
 have c:=g;clear g
 have o:f<i.heap.size:=by omega
 refine gS (Yk.eqI (a:=(q:Nat)) (b:=(0:Nat)) rfl rfl (CX _ _ _ _) (kT (by omega) (gS (Yk.eqI (a:=(q:Nat)) (b:=(1073741824:Nat)) rfl rfl (Ey _ _ _ _) (kT (hq) (gS (Yk.pickT rfl rfl (gS (Yk.build2 (vr (.bool (true)) rfl) (vr (NI q) rfl) (fun w=>EN true ((q:Nat):Int) w) (gS (Yk.storeSt EO (vr (PQ f 0) rfl) (vr (.agg (rdkC ((⟨true,((q:Nat):Int),[],[],[],[],[],0,0,false⟩,⟨(Value.slice none 0 0),(Value.slice none 0 0),(Value.slice none 0 0),(Value.slice none 0 0),(Value.slice none 0 0)⟩):Au)).toArray) rfl) c (AA (x:=((⟨true,((q:Nat):Int),[],[],[],[],[],0,0,false⟩,⟨(Value.slice none 0 0),(Value.slice none 0 0),(Value.slice none 0 0),(Value.slice none 0 0),(Value.slice none 0 0)⟩):Au)) rfl rfl rfl rfl rfl) fun k h l p=> ?_)))))))))))
 have hE:=hE.trans j
 have hE:=Aa hE l (Nat.le_trans (Nat.le_refl _) (by omega))
 clear c
 have c:k.heap[f]? =some (.cells (rdkC ((⟨true,((q:Nat):Int),[],[],[],[],[],0,0,false⟩,⟨(Value.slice none 0 0),(Value.slice none 0 0),(Value.slice none 0 0),(Value.slice none 0 0),(Value.slice none 0 0)⟩):Au)).toArray 31 (0,0)):=h;clear h
 have r:=bl c
 refine F6 rfl (ResF.row rfl c (FH).choose_spec rfl (AN (Ay _) E0)) ?_
 exact⟨rfl,hE⟩

theorem Qk(w:World)(q:Int)(hq:q<0∨1073741824<q):
  Calls Tryz.prog 6 #[.int .i64 q] w fun e w' =>e = .returned (.agg (rdkC (AK q)).toArray)∧Ext w w' :=by
 refine gG (args:= [.int .i64 (q:Int)]) Tryz.func6 rfl 11 rfl rfl ?_
 have hE:=Ext.refl w
 refine gS (Yk.alloc (cs:=(rdkC ((⟨false,0,[],[],[],[],[],0,0,false⟩,⟨.slice none 0 0, .slice none 0 0, .slice none 0 0, .slice none 0 0, .slice none 0 0⟩):Au)).toArray) Ku fun b i n c f o=> ?_)
 have a:=c;clear c
 have p:b<i.heap.size:=by omega
 by_cases hq0:q≥0
 ·refine gS (Yk.eqI rfl rfl (QI _ .i64 (q:Int) ((0:Nat):Int)) (kT (hq0) (gS (Yk.eqI rfl rfl (QH _ .i64 (q:Int) ((1073741824:Nat):Int)) (kF (by omega) (gS (Yk.pickT rfl rfl (gS (Yk.build2 (vr (.bool (false)) rfl) (vr (.int .i64 (q:Int)) rfl) (fun w=>EN false q w) (gS (Yk.storeSt EO (vr (PQ b 0) rfl) (vr (.agg (rdkC ((⟨false,q,[],[],[],[],[],0,0,false⟩,⟨(Value.slice none 0 0),(Value.slice none 0 0),(Value.slice none 0 0),(Value.slice none 0 0),(Value.slice none 0 0)⟩):Au)).toArray) rfl) a (AA (x:=((⟨false,q,[],[],[],[],[],0,0,false⟩,⟨(Value.slice none 0 0),(Value.slice none 0 0),(Value.slice none 0 0),(Value.slice none 0 0),(Value.slice none 0 0)⟩):Au)) rfl rfl rfl rfl rfl) fun j g k r=> ?_)))))))))))
  have hE:=hE.trans f
  have hE:=Aa hE k (Nat.le_trans (Nat.le_refl _) (by omega))
  clear a
  have a:j.heap[b]? =some (.cells (rdkC ((⟨false,q,[],[],[],[],[],0,0,false⟩,⟨(Value.slice none 0 0),(Value.slice none 0 0),(Value.slice none 0 0),(Value.slice none 0 0),(Value.slice none 0 0)⟩):Au)).toArray 31 (0,0)):=g;clear g
  have s:=bl a
  refine F6 rfl (ResF.row rfl a (FH).choose_spec rfl (AN (Ay _) E0)) ?_
  exact⟨rfl,hE⟩
 refine gS (Yk.eqI rfl rfl (QI _ .i64 (q:Int) ((0:Nat):Int)) (kF (hq0) (gS (Yk.pickF rfl rfl (gS (Yk.build2 (vr (.bool (false)) rfl) (vr (.int .i64 (q:Int)) rfl) (fun w=>EN false q w) (gS (Yk.storeSt EO (vr (PQ b 0) rfl) (vr (.agg (rdkC ((⟨false,q,[],[],[],[],[],0,0,false⟩,⟨(Value.slice none 0 0),(Value.slice none 0 0),(Value.slice none 0 0),(Value.slice none 0 0),(Value.slice none 0 0)⟩):Au)).toArray) rfl) a (AA (x:=((⟨false,q,[],[],[],[],[],0,0,false⟩,⟨(Value.slice none 0 0),(Value.slice none 0 0),(Value.slice none 0 0),(Value.slice none 0 0),(Value.slice none 0 0)⟩):Au)) rfl rfl rfl rfl rfl) fun l h m t=> ?_))))))))
 have hE:=hE.trans f
 have hE:=Aa hE m (Nat.le_trans (Nat.le_refl _) (by omega))
 clear a
 have a:l.heap[b]? =some (.cells (rdkC ((⟨false,q,[],[],[],[],[],0,0,false⟩,⟨(Value.slice none 0 0),(Value.slice none 0 0),(Value.slice none 0 0),(Value.slice none 0 0),(Value.slice none 0 0)⟩):Au)).toArray 31 (0,0)):=h;clear h
 have u:=bl a
 refine F6 rfl (ResF.row rfl a (FH).choose_spec rfl (AN (Ay _) E0)) ?_
 exact⟨rfl,hE⟩

theorem Jc{P:Nat→Prop}(w:World)(D:An)(V:Cn)(hR:RdAt P w D V)(hL:Co D):
  Calls Tryz.prog 10 #[.agg (rdkC (Ac D,V)).toArray] w fun e w' =>∃v',e = .returned v' ∧OG w.heap.size 9 1 (B1) w' v' (As D)∧Ext w w' :=by
 obtain⟨vs,hvs,hfiles0⟩:=hR.files
 have hfiles:=hfiles0.1
 have hsynced:=hR.synced.1
 have hnow:=hR.now.1
 have hkept:=hR.kept.1
 have hacts:=hR.acts.1
 refine gG (args:= [.agg (rdkC (Ac D,V)).toArray]) Tryz.func10 rfl 31 rfl rfl ?_
 have hE:=Ext.refl w
 refine gS (Yk.box (cs:=(rdkC (Ac D,V):List Value).toArray) (vr (.agg (rdkC (Ac D,V)).toArray) rfl) fun j f ao x z ap=> ?_)
 have c:=x;clear x
 have aq:j<f.heap.size:=by omega
 cases hd:D.down
 ·have hE:=hE.trans z
  have hlw0:w.heap.size≤f.heap.size:=hE.size
  have k:=Ext.refl f
  have ad:=hE.size
  have hrow0:OG f.heap.size 9 1 (B1) f (Value.slice none 0 0) ([]:List (List UInt8)):=OG.nil _ _ _ _ _
  have ae:Value.ownBlock (Value.slice none 0 0)≠some j:=fun e_=>by cases e_
  have hnl:=hL.now
  refine gL (fun(ρ:Ai) (wz:World)=>∃i:Nat,∃r:Value,ρ 0=(.agg (rdkC (Ac D,V)).toArray:Value)∧ρ 1=(PQ j 0:Value)∧ρ 2=((Value.slice none 0 0):Value)∧ρ 4=(NI i:Value)∧ρ 3=(r:Value)∧Ext w wz∧wz.heap[j]? =some (.cells (rdkC (Ac D,V)).toArray 31 (0,0))∧Ext f wz∧OG f.heap.size 9 1 (B1) wz r ((D.now.take i).map Prod.fst)∧(i≤D.now.length)∧(i=0∨D.down=false)∧(OB r j)∧True) (fun ρ _=>D.now.length-(intOf (ρ 4)).toNat) ⟨0,(Value.slice none 0 0),rfl,rfl,rfl,rfl,rfl,hE,c,k,Bk hrow0 (rfl),Nat.zero_le _, .inl rfl,ae,trivial⟩ ?_
  clear hrow0
  clear hE c k
  rintro af ag ⟨i,r,T0,g,T2,l,m,hE,c,k,hr_r,hi,hdn,hap_r_n2,-⟩
  have q4:=l
  by_cases hlt:i<D.now.length
  ·refine gS (Yk.fieldAt Ct g (gS (Yk.cell1 Bn rfl rfl (cellAt c (BU (Ac D,V))) (gS (Yk.lenRG Bn (RG.of (hnow.keep hE) rfl) (gS (Yk.eqI (a:=(i:Nat)) (b:=((D.now).length:Nat)) l rfl (AO _ _ _ _) (kT (hlt) (gS (Yk.fieldAt Dc g (gS (Yk.cell1 Q3 rfl rfl (cellAt c (Dy (Ac D,V))) (gS (Yk.pickT rfl rfl (gS (Yk.fieldAt DE g (gS (Yk.cell1 Q3 rfl rfl (cellAt c (show(rdkC (Ac D,V))[9]? =some (.bool false:Value)from(EL (Ac D,V)).trans (congrArg (fun b=>some (Value.bool b)) (show(Ac D).down=_ from hd)))) (gS (Yk.notB rfl (gS (Yk.pickT rfl rfl (cT rfl (gS (Yk.fieldAt Ct g (gS (Yk.cell1 Bn rfl rfl (cellAt c (BU (Ac D,V))) ?_)))))))))))))))))))))))))))
   have ar:(renC ((D.now).getD (i) (([],0):List UInt8 × Nat))).length=2:=(RG.elem (hnow.keep hE) (([],0):List UInt8 × Nat) (by omega))
   refine gS (Yk.atRG Bn CT (by decide) (([],0):List UInt8 × Nat) (RG.of (hnow.keep hE) rfl) l (by omega) fun au q=>(gS (Yk.fieldPR (n:=1) FF (PR.of q rfl) fun ah s=> ?_)))
   have s:PCell (St (((D.now).getD (i) (([],0):List UInt8 × Nat)).1)) ah ag:=PR.pcell ((Gu ((D.now).getD (i) (([],0):List UInt8 × Nat)))▸s)
   refine gS (Yk.loadC Io rfl (PCell.of s rfl) (gS (Yk.lit1S (a:=((D.now).getD (i) (([],0):List UInt8 × Nat)).1) (enc:=B1) (vr (St (((D.now).getD (i) (([],0):List UInt8 × Nat)).1)) rfl) rfl (fun w=>Fv _ w) fun ai aj ac p=> ?_)))
   have q:=PR.keep q p
   have k:=k.trans p
   have hr_r:=hr_r.keep p
   refine gS (Yk.appendRG _ _ f.heap.size _ 16 JV rd2_ig9.choose_spec.1 rd2_ig9.choose_spec.2 JV ((D.now.take i).map Prod.fst) ([((D.now).getD (i) (([],0):List UInt8 × Nat)).1]) (OG.of hr_r m) (RG.of ac (vr ai rfl)) (fun y hy u hu=>by rw[List.mem_singleton.1 hu];rfl) (by simp only[List.length_map,List.length_take,List.length_singleton];omega) (by simp only[List.length_map,List.length_take,List.length_singleton];omega) k.size fun t ak al o=> ?_)
   have o:Grew aj ak r t:= .eqv m o
   have c:=eb p c
   have am:OB t j:=Ax o hap_r_n2 (bl c)
   have hE:=hE.trans p
   have hE:=Ag hE o hr_r.2 ad
   have c:=Am c o hap_r_n2
   have k:=Ag k o hr_r.2 (Nat.le_refl _)
   clear q
   clear s
   clear ac
   clear hr_r
   refine gS (Yk.bin (xv:=NI i) (yv:=NI 1) l rfl rfl (Ap _ _ _ (by omega)) (gK (And.intro ⟨i+1,t,T0,g,T2,rfl,rfl,hE,c,k,Bk al (Og hlt),by omega, .inr hd,am,trivial⟩ ?_)))
   show D.now.length-(intOf (NI ((i)+(1)))).toNat<D.now.length-(intOf (af 4)).toNat
   rw[q4]
   simp only[intOf,Int.toNat_natCast];omega
  refine gS (Yk.fieldAt Ct g (gS (Yk.cell1 Bn rfl rfl (cellAt c (BU (Ac D,V))) (gS (Yk.lenRG Bn (RG.of (hnow.keep hE) rfl) (gS (Yk.eqI (a:=(i:Nat)) (b:=((D.now).length:Nat)) l rfl (AO _ _ _ _) (kF (hlt) (gS (Yk.pickF rfl rfl (gS (Yk.pickF rfl rfl (cF rfl (AX rfl m ?_))))))))))))))
  have h:=hr_r
  have hie:i=D.now.length:=by omega
  rw[hie,List.take_length]at h
  exact⟨_,rfl,by rw[show As D=D.now.map Prod.fst from if_neg (by rw[hd];decide)];exact OG.low h hlw0,hE⟩
 have hE:=hE.trans z
 have hlw0:w.heap.size≤f.heap.size:=hE.size
 have v:=Ext.refl f
 have av:=hE.size
 have hrow0:OG f.heap.size 9 1 (B1) f (Value.slice none 0 0) ([]:List (List UInt8)):=OG.nil _ _ _ _ _
 have an:Value.ownBlock (Value.slice none 0 0)≠some j:=fun e_=>by cases e_
 have hnl:=hL.now
 refine gL (fun(ρ:Ai) (wz:World)=>∃i:Nat,∃r:Value,ρ 0=(.agg (rdkC (Ac D,V)).toArray:Value)∧ρ 1=(PQ j 0:Value)∧ρ 2=((Value.slice none 0 0):Value)∧ρ 4=(NI i:Value)∧ρ 3=(r:Value)∧Ext w wz∧wz.heap[j]? =some (.cells (rdkC (Ac D,V)).toArray 31 (0,0))∧Ext f wz∧OG f.heap.size 9 1 (B1) wz r ((D.now.take i).map Prod.fst)∧(i≤D.now.length)∧(i=0∨D.down=false)∧(OB r j)∧True) (fun ρ _=>D.now.length-(intOf (ρ 4)).toNat) ⟨0,(Value.slice none 0 0),rfl,rfl,rfl,rfl,rfl,hE,c,v,Bk hrow0 (rfl),Nat.zero_le _, .inl rfl,an,trivial⟩ ?_
 clear hrow0
 clear hE c v
 rintro aw ax ⟨i,r,T0,g,T2,l,m,hE,c,v,hr_r,hi,hdn,hap_r_n2,-⟩
 have q4:=l
 by_cases hlt:i<D.now.length
 ·refine gS (Yk.fieldAt Ct g (gS (Yk.cell1 Bn rfl rfl (cellAt c (BU (Ac D,V))) (gS (Yk.lenRG Bn (RG.of (hnow.keep hE) rfl) (gS (Yk.eqI (a:=(i:Nat)) (b:=((D.now).length:Nat)) l rfl (AO _ _ _ _) (kT (hlt) (gS (Yk.fieldAt Dc g (gS (Yk.cell1 Q3 rfl rfl (cellAt c (Dy (Ac D,V))) (gS (Yk.pickT rfl rfl (gS (Yk.fieldAt DE g (gS (Yk.cell1 Q3 rfl rfl (cellAt c (show(rdkC (Ac D,V))[9]? =some (.bool true:Value)from(EL (Ac D,V)).trans (congrArg (fun b=>some (Value.bool b)) (show(Ac D).down=_ from hd)))) (gS (Yk.notB rfl (gS (Yk.pickT rfl rfl (cF rfl (AX rfl m ?_))))))))))))))))))))))))
  have h:=hr_r
  obtain rfl:i=0:=by rcases hdn with h0 | h0;exact h0;rw[hd]at h0;cases h0
  exact⟨_,rfl,by rw[show As D= []from if_pos hd];exact OG.low h hlw0,hE⟩
 refine gS (Yk.fieldAt Ct g (gS (Yk.cell1 Bn rfl rfl (cellAt c (BU (Ac D,V))) (gS (Yk.lenRG Bn (RG.of (hnow.keep hE) rfl) (gS (Yk.eqI (a:=(i:Nat)) (b:=((D.now).length:Nat)) l rfl (AO _ _ _ _) (kF (hlt) (gS (Yk.pickF rfl rfl (gS (Yk.pickF rfl rfl (cF rfl (AX rfl m ?_))))))))))))))
 have h:=hr_r
 obtain rfl:i=0:=by rcases hdn with h0 | h0;exact h0;rw[hd]at h0;cases h0
 exact⟨_,rfl,by rw[show As D= []from if_pos hd];exact OG.low h hlw0,hE⟩

theorem Ky(w:World)(q:Int):
  Calls Tryz.prog 10 #[.agg (rdkC (AK q)).toArray] w fun e w' =>e = .returned (.slice none 0 0)∧Ext w w' :=by
 refine gG (args:= [.agg (rdkC (AK q)).toArray]) Tryz.func10 rfl 31 rfl rfl ?_
 have hE:=Ext.refl w
 refine gS (Yk.box (cs:=(rdkC (AK q):List Value).toArray) (vr (.agg (rdkC (AK q)).toArray) rfl) fun f i m g j n=> ?_)
 have c:=g;clear g
 have o:f<i.heap.size:=by omega
 have hE:=hE.trans j
 refine gL (fun(ρ:Ai) (wz:World)=>ρ 0=(.agg (rdkC (AK q)).toArray:Value)∧ρ 1=(PQ f 0:Value)∧ρ 2=((Value.slice none 0 0):Value)∧ρ 4=(NI 0:Value)∧ρ 3=((Value.slice none 0 0):Value)∧Ext w wz∧wz.heap[f]? =some (.cells (rdkC (AK q)).toArray 31 (0,0))∧True) (fun ρ _=>(intOf (ρ 4)).toNat) ⟨rfl,rfl,rfl,rfl,rfl,hE,c,trivial⟩ ?_
 clear hE c
 rintro p r ⟨s,k,t,h,l,hE,c,-⟩
 have q4:=h
 refine gS (Yk.fieldAt Ct k (gS (Yk.cell1 Bn rfl rfl (cellAt c (BU (AK q))) (gS (Yk.lenSl Bn rfl (gS (Yk.eqI (a:=(0:Nat)) (b:=(0:Nat)) h rfl (AO _ _ _ _) (kF (by decide) (gS (Yk.pickF rfl rfl (gS (Yk.pickF rfl rfl (cF rfl (AX rfl l ?_))))))))))))))
 exact⟨rfl,hE⟩

theorem Oi{P:Nat→Prop}(w:World)(D:An)(V:Cn)(hR:RdAt P w D V)(hok:DOk D)(hL:Co D)(s:List UInt8):
  Calls Tryz.prog 50 #[.agg (rdkC (Ac D,V)).toArray,St s] w fun e w' =>∃v',e = .returned (.tuple #[v',NI (Az D s).2])∧w'.ownsRow w.heap.size 5 1 v' (Az D s).1.length (Lib.byteCells (Az D s).1)∧Ext w w' :=by
 obtain⟨vs,hvs,hfiles0⟩:=hR.files
 have hfiles:=hfiles0.1
 have hsynced:=hR.synced.1
 have hnow:=hR.now.1
 have hkept:=hR.kept.1
 have hacts:=hR.acts.1
 refine gG (args:= [.agg (rdkC (Ac D,V)).toArray,St (s)]) Tryz.func50 rfl 28 rfl rfl ?_
 have hE:=Ext.refl w
 refine gS (Yk.box (cs:=(rdkC (Ac D,V):List Value).toArray) (vr (.agg (rdkC (Ac D,V)).toArray) rfl) fun p x af q y ag=> ?_)
 have c:=q;clear q
 have ah:p<x.heap.size:=by omega
 have hE:=hE.trans y
 refine gS (Yk.loadSt EO rfl c (gS (Yk.callA3 Kv rfl rfl rfl ((E1 _ D V (hR.keep hE) s s).mono ?_))))
 rintro e ai ⟨rfl,g⟩
 refine⟨_,rfl,?_⟩
 refine gS (Yk.eqI (a:=((A6 D s s):Nat)) (b:=(0:Nat)) rfl rfl (AZ _ _ _ _) ?_)
 refine cD rfl (fun m=> ?_) fun m=> ?_
 ·refine Dh rfl (vr (Value.slice none 0 0) rfl) (vr (NI (A6 D s s)) rfl) ?_
  have f:Az D s=([],A6 D s s):=by unfold Az C8;rw[if_pos (show A6 D s s≠0 from m)]
  have hE:=hE.trans g
  exact⟨_,by rw[f],by rw[f];exact World.ownsRow_nil _ _ _ 1,hE⟩
 cases hk:AD D.now s
 ·have hlz:=Ec hk
  have hE:=hE.trans g
  have c:=eb g c
  refine gS (Yk.fieldAt Ct rfl (gS (Yk.cell1 Bn rfl rfl (cellAt c (BU (Ac D,V))) (gS (Yk.callA2 Kw rfl rfl ((CW _ V.now D.now s (-1) (hnow.keep hE) hL.now hlz).mono ?_))))))
  rintro e aj ⟨rfl,z⟩
  refine⟨_,rfl,?_⟩
  refine gS (Yk.eqI rfl rfl (D3 _ .i64 (-1:Int) ((0:Nat):Int)) (kT (by decide) (cT rfl (Dh rfl (vr (Value.slice none 0 0) rfl) (vr (NI 4) rfl) ?_))))
  have f:Az D s=([],4):=by unfold Az C8;rw[if_neg (show ¬A6 D s s≠0 from m),hk]
  have hE:=hE.trans z
  exact⟨_,by rw[f],by rw[f];exact World.ownsRow_nil _ _ _ 1,hE⟩
 rename_i k
 have hlz:=DD hk
 have hkn:=(hok.now.look hk).1
 have hvl:vs.length=D.files.length:=by rw[hvs.len,List.length_map]
 have hfk:=(hvs.at_ k (by rw[List.length_map];exact hkn)).1
 rw[C5 (d:=(([],0):List UInt8 × Nat)) rfl]at hfk
 have hfb:=hL.files _ (BD (d:=([],0)) hkn)
 have hE:=hE.trans g
 have c:=eb g c
 refine gS (Yk.fieldAt Ct rfl (gS (Yk.cell1 Bn rfl rfl (cellAt c (BU (Ac D,V))) (gS (Yk.callA2 Kw rfl rfl ((CW _ V.now D.now s ((k:Nat):Int) (hnow.keep hE) hL.now hlz).mono ?_))))))
 rintro e r ⟨rfl,t⟩
 refine⟨_,rfl,?_⟩
 refine gS (Yk.eqI (a:=(k:Nat)) (b:=(0:Nat)) rfl rfl (AO _ _ _ _) (kF (by omega) (cF rfl (gS (Yk.lit0 Ns fun o aa i=> ?_)))))
 have j:=Ext.refl r
 have hE:=hE.trans t
 have ab:=hE.size
 have c:=eb t c
 have ac:OB o p:=Ao i.own (bl c)
 have n:=i.own
 have c:=eb i.ext c
 refine gS (Yk.fieldAt H5 rfl (gS (Yk.cell1 IY rfl rfl (cellAt c (C2 (Ac D,V))) ?_)))
 have hE:=hE.trans i.ext
 have ak:(DF (vs.getD (k) undef)).length=1:=(RG.elem (hfiles.keep hE) undef (by omega))
 have j:=j.trans i.ext
 refine gS (Yk.atRG IY NG (by decide) undef (RG.of (hfiles.keep hE) rfl) rfl (by omega) fun al u=>(gS (Yk.loadC S2 rfl (PR.cell (PR.of u rfl) rfl) (gS (Yk.appendRB _ _ r.heap.size (.int .u8 0) S2 SH rfl S2 (([]:List UInt8)) ((D.files.getD k ([],0)).1) (CI n (vr o rfl)) (RB.of (hfk.keep hE) (vr (vs.getD (k) undef) rfl)) (by simp only[List.length_nil];omega) j.size fun v ad ae l=> ?_)))))
 have l:Grew aa ad o v:=l
 have hE:=Ag hE l n ab
 have c:=Am c l ac
 have j:=Ag j l n (Nat.le_refl _)
 clear u
 clear n
 refine Dh rfl (vr v rfl) (vr (NI 0) rfl) ?_
 have f:Az D s=((D.files.getD k ([],0)).1,0):=by unfold Az C8;rw[if_neg (show ¬A6 D s s≠0 from m),hk];rfl
 have h:=ae
 exact⟨_,by rw[f],by rw[f];exact BZ (show World.ownsRow _ _ _ _ _ _ _ from by simpa using h) (by omega),hE⟩

theorem Kz(w:World)(q:Int)(s:List UInt8):
  Calls Tryz.prog 50 #[.agg (rdkC (AK q)).toArray,St s] w fun e w' =>e = .returned (.tuple #[.slice none 0 0,NI 1])∧Ext w w' :=by
 refine gG (args:= [.agg (rdkC (AK q)).toArray,St (s)]) Tryz.func50 rfl 28 rfl rfl ?_
 have hE:=Ext.refl w
 refine gS (Yk.box (cs:=(rdkC (AK q):List Value).toArray) (vr (.agg (rdkC (AK q)).toArray) rfl) fun f g k c h l=> ?_)
 have i:=c;clear c
 have m:f<g.heap.size:=by omega
 refine gS (Yk.loadSt EO rfl i (gS (Yk.callA3 Kv rfl rfl rfl ((FI _ q s s).mono ?_))))
 rintro e n ⟨rfl,j⟩
 refine⟨_,rfl,?_⟩
 refine gS (Yk.eqI (a:=(1:Nat)) (b:=(0:Nat)) rfl rfl (AZ _ _ _ _) (kT (by decide) (cT rfl (Dh rfl (vr (Value.slice none 0 0) rfl) (vr (NI 1) rfl) ?_))))
 have hE:=hE.trans (h.trans j)
 exact⟨rfl,hE⟩
open Go.RowKit
set_option maxRecDepth 100000
set_option linter.unusedVariables false
set_option linter.unusedSimpArgs false
theorem Oj{base:Nat}{w:World}{vs:List Value}{l:List (List UInt8 × Nat)}{i:Nat}(h:RowsO base w vs ((l.map Prod.fst).take i++ [(l.getD i ([],0)).1]))(hi:i<l.length):RowsO base w vs ((l.map Prod.fst).take (i+1)):=by
 rw[List.take_succ_eq_append_getElem (by rwa [List.length_map])]
 rw[List.getD_eq_getElem?_getD,List.getElem?_eq_getElem hi]at h
 simpa using h
theorem Ed:A3 Tryz.prog 31 8 8:=fun b o w=>by simp[go_sem]
theorem Ej:GP Tryz.prog 31 rdkC:=⟨⟨_,(FH).choose_spec⟩,fun x=>AN (Ay x) E0⟩
theorem Ql(ao:Option Addr)(n:Nat)(c:Nat)(w:World):(Instr.buildSlice 26 1 #[(0, .slice ao n c)]).run Tryz.prog w = .ok (.slice (some ⟨w.heap.size,0,none⟩) 1 1) (w.alloc (.cells #[.slice ao n c] 35)):=by kernel_rfl
theorem rd3_ig35:∃z,(Tryz.prog.info? 35).map (fun i=>(i.zero,i.size,i.bytes))=some (some z,1,24)∧z.cells.size=1:=Eg (by kernel_rfl)
theorem Ok:(Tryz.prog.info? 26).map (·.size)=some 1:=by kernel_rfl
theorem Om(w:World):(Instr.buildSlice 27 0 #[]).run Tryz.prog w = .ok (.slice (some ⟨w.heap.size,0,none⟩) 0 0) (w.alloc (.cells #[] 3)):=by kernel_rfl
theorem H6:A3 Tryz.prog 31 3 3:=fun b o w=>by simp[go_sem]
theorem rd3_ig3:∃z,(Tryz.prog.info? 3).map (fun i=>(i.zero,i.size,i.bytes))=some (some z,1,8)∧z.cells.size=1:=Eg (by kernel_rfl)
theorem Jd(w:World):(Instr.buildSlice 28 0 #[]).run Tryz.prog w = .ok (.slice (some ⟨w.heap.size,0,none⟩) 0 0) (w.alloc (.cells #[] 83)):=by kernel_rfl
theorem Je:(Tryz.prog.info? 28).map (·.size)=some 1:=by kernel_rfl
theorem H7:A3 Tryz.prog 31 5 5:=fun b o w=>by simp[go_sem]
theorem Oo(w:World):(Instr.buildSlice 29 0 #[]).run Tryz.prog w = .ok (.slice (some ⟨w.heap.size,0,none⟩) 0 0) (w.alloc (.cells #[] 114)):=by kernel_rfl
theorem H9:A3 Tryz.prog 31 6 6:=fun b o w=>by simp[go_sem]
theorem Hj:Tryz.prog.underlying 29=some (.slice 114):=by kernel_rfl
theorem rd3_ig114:∃z,(Tryz.prog.info? 114).map (fun i=>(i.zero,i.size,i.bytes))=some (some z,3,40)∧z.cells.size=3:=Eg (by kernel_rfl)
theorem Oq:(Tryz.prog.info? 29).map (·.size)=some 1:=by kernel_rfl
set_option maxHeartbeats 1600000
theorem Or{P:Nat→Prop}(w:World)(D:An)(V:Cn)(hR:RdAt P w D V)(hL:Co D):
  Calls Tryz.prog 61 #[.agg (rdkC (Ac D,V)).toArray] w fun e w' =>e = .returned (.tuple #[.agg (rdkC (Ac (Bh D).1,V)).toArray, .bool (Bh D).2])∧Ext w w' :=by
 obtain⟨vs,hvs,hfiles0⟩:=hR.files
 have hfiles:=hfiles0.1
 have hsynced:=hR.synced.1
 have hnow:=hR.now.1
 have hkept:=hR.kept.1
 have hacts:=hR.acts.1
 have harm:=hL.arm
 refine gG (args:= [.agg (rdkC (Ac D,V)).toArray]) Tryz.func61 rfl 19 rfl rfl ?_
 have hE:=Ext.refl w
 refine gS (Yk.box (cs:=(rdkC (Ac D,V):List Value).toArray) (vr (.agg (rdkC (Ac D,V)).toArray) rfl) fun j z ah l aa ai=> ?_)
 have c:=l;clear l
 have aj:j<z.heap.size:=by omega
 refine gS (Yk.alloc (cs:=(rdkC ((⟨false,0,[],[],[],[],[],0,0,false⟩,⟨.slice none 0 0, .slice none 0 0, .slice none 0 0, .slice none 0 0, .slice none 0 0⟩):Au)).toArray) Ku fun g ab ac m h ak=> ?_)
 have hE:=hE.trans aa
 have n:=hE.size
 have al:=AE (bl c) ac
 have f:=m;clear m
 have am:g<ab.heap.size:=by omega
 by_cases ha:D.arm=0
 ·have hE:=hE.trans h
  have c:=eb h c
  refine gS (Yk.fieldAt Ed rfl (gS (Yk.cell1 Pb rfl rfl (cellAt c (H4 (Ac D,V))) (gS (Yk.eqI (a:=(D.arm:Nat)) (b:=(0:Nat)) rfl rfl (AY _ _ _ _) (kT (ha) (cT rfl (gS (Yk.loadSt Ej rfl c (gS (Yk.storeSt Ej (vr (PQ g 0) rfl) (vr (.agg (rdkC (Ac D,V)).toArray) rfl) f (AA (x:=(Ac D,V)) (RG.one (hfiles.keep hE)).2 (RG.one (hsynced.keep hE)).2 (RG.one (hnow.keep hE)).2 (RG.one (hkept.keep hE)).2 (RG.one (hacts.keep hE)).2) fun ad o p an=> ?_)))))))))))
  have hE:=Aa hE p (Nat.le_trans n (by omega))
  have c:=kb p c (by omega)
  clear f
  have f:ad.heap[g]? =some (.cells (rdkC (Ac D,V)).toArray 31 (0,0)):=o;clear o
  have ao:=bl f
  refine B2 rfl (ResF.row rfl f (FH).choose_spec rfl (AN (Ay _) E0)) (vr (.bool (false)) rfl) ?_
  rw[show Bh D=(D,false)from if_pos ha]
  exact⟨rfl,hE⟩
 have c:=eb h c
 refine gS (Yk.fieldAt Ed rfl (gS (Yk.cell1 Pb rfl rfl (cellAt c (H4 (Ac D,V))) (gS (Yk.eqI (a:=(D.arm:Nat)) (b:=(0:Nat)) rfl rfl (AY _ _ _ _) (kF (ha) (cF rfl (gS (Yk.fieldAt Ed rfl (gS (Yk.cell1 Pb rfl rfl (cellAt c (H4 (Ac D,V))) (gS (Yk.bin (xv:=NI D.arm) (yv:=NI 1) rfl rfl rfl (BL _ _ _ (by omega) (by omega)) (gS (Yk.fieldAt Ed rfl (gS (Yk.storeC (i:=8) (v:=NI ((D.arm)-(1))) rfl rfl c (by rw[Ay];decide) Ph rfl rfl fun ae q r ap=> ?_)))))))))))))))))
 have hE:=hE.trans h
 have hE:=Aa hE r (Nat.le_trans (Nat.le_refl _) (by omega))
 have f:=kb r f (by omega)
 clear c
 have c:ae.heap[j]? =some (.cells (rdkC ((⟨true,((D.quota:Nat):Int),(D.files.map Prod.fst),(D.files.map fun x=>((x.2:Nat):Int)),D.now,D.kept,D.acts,D.refused,((D.arm)-(1)),D.down⟩,⟨V.files,V.synced,V.now,V.kept,V.acts⟩):Au)).toArray 31 (0,0)):=AF q (Od (Ac D,V) ((D.arm)-(1)));clear q
 have aq:=bl c
 refine gS (Yk.fieldAt Ed rfl (gS (Yk.cell1 Pb rfl rfl (cellAt c (H4 ((⟨true,((D.quota:Nat):Int),(D.files.map Prod.fst),(D.files.map fun x=>((x.2:Nat):Int)),D.now,D.kept,D.acts,D.refused,((D.arm)-(1)),D.down⟩,⟨V.files,V.synced,V.now,V.kept,V.acts⟩):Au))) (gS (Yk.eqI (a:=(((D.arm)-(1)):Nat)) (b:=(0:Nat)) rfl rfl (AY _ _ _ _) (gS (Yk.fieldAt DE rfl (gS (Yk.storeC (i:=9) (v:= .bool (decide ((((D.arm)-(1)):Nat)=(0)))) rfl rfl c (by rw[Ay];decide) Pk rfl rfl fun af s t ar=> ?_)))))))))
 have hE:=Aa hE t (Nat.le_trans (Nat.le_refl _) (by omega))
 have f:=kb t f (by omega)
 clear c
 have c:af.heap[j]? =some (.cells (rdkC ((⟨true,((D.quota:Nat):Int),(D.files.map Prod.fst),(D.files.map fun x=>((x.2:Nat):Int)),D.now,D.kept,D.acts,D.refused,((D.arm)-(1)),(decide ((((D.arm)-(1)):Nat)=(0)))⟩,⟨V.files,V.synced,V.now,V.kept,V.acts⟩):Au)).toArray 31 (0,0)):=AF s (SB ((⟨true,((D.quota:Nat):Int),(D.files.map Prod.fst),(D.files.map fun x=>((x.2:Nat):Int)),D.now,D.kept,D.acts,D.refused,((D.arm)-(1)),D.down⟩,⟨V.files,V.synced,V.now,V.kept,V.acts⟩):Au) (decide ((((D.arm)-(1)):Nat)=(0))));clear s
 have au:=bl c
 refine BV [0,1,2,3,4] [3] [1] [2] fun av k=> ?_
 have hE:=hE.trans k
 have f:=eb k f
 have c:=eb k c
 refine HE c ?_
 refine ys (Yk.loadSt Ej rfl c zz) (yp (Yk.fieldAt DE rfl zz) (yf (fun _ ⟨c,_⟩=>Yk.cell1 Q3 rfl rfl (cellAt c (EL ((⟨true,((D.quota:Nat):Int),(D.files.map Prod.fst),(D.files.map fun x=>((x.2:Nat):Int)),D.now,D.kept,D.acts,D.refused,((D.arm)-(1)),(decide ((((D.arm)-(1)):Nat)=(0)))⟩,⟨V.files,V.synced,V.now,V.kept,V.acts⟩):Au))) zz) (yI (Yk.storeSt Ej (vr (PQ g 0) rfl) (vr (.agg (rdkC ((⟨true,((D.quota:Nat):Int),(D.files.map Prod.fst),(D.files.map fun x=>((x.2:Nat):Int)),D.now,D.kept,D.acts,D.refused,((D.arm)-(1)),(decide ((((D.arm)-(1)):Nat)=(0)))⟩,⟨V.files,V.synced,V.now,V.kept,V.acts⟩):Au)).toArray) rfl) f (AA (x:=((⟨true,((D.quota:Nat):Int),(D.files.map Prod.fst),(D.files.map fun x=>((x.2:Nat):Int)),D.now,D.kept,D.acts,D.refused,((D.arm)-(1)),(decide ((((D.arm)-(1)):Nat)=(0)))⟩,⟨V.files,V.synced,V.now,V.kept,V.acts⟩):Au)) (RG.one (hfiles.keep hE)).2 (RG.one (hsynced.keep hE)).2 (RG.one (hnow.keep hE)).2 (RG.one (hkept.keep hE)).2 (RG.one (hacts.keep hE)).2) fun ag u y aw=> ?_))))
 have hE:=Aa hE y (Nat.le_trans n (by omega))
 have c:=kb y c (by omega)
 clear f
 have f:ag.heap[g]? =some (.cells (rdkC ((⟨true,((D.quota:Nat):Int),(D.files.map Prod.fst),(D.files.map fun x=>((x.2:Nat):Int)),D.now,D.kept,D.acts,D.refused,((D.arm)-(1)),(decide ((((D.arm)-(1)):Nat)=(0)))⟩,⟨V.files,V.synced,V.now,V.kept,V.acts⟩):Au)).toArray 31 (0,0)):=u;clear u
 have ax:=bl f
 refine⟨⟨c,trivial⟩,?_⟩
 refine B2 rfl (ResF.row rfl f (FH).choose_spec rfl (AN (Ay _) E0)) (vr (.bool ((decide ((((D.arm)-(1)):Nat)=(0))))) rfl) ?_
 rw[show Bh D=_ from if_neg ha]
 exact⟨rfl,hE⟩

theorem FJ{P:Nat→Prop}(w:World)(D:An)(V:Cn)(hR:RdAt P w D V)(hL:Co D)(hfn:D.files.length<1099511627776):
  Calls Tryz.prog 59 #[.agg (rdkC (Ac D,V)).toArray] w fun e w' =>∃V',e = .returned (.agg (rdkC (Ac D,V')).toArray)∧RdO w.heap.size w' D V' ∧Ext w w' :=by
 obtain⟨vs,hvs,hfiles0⟩:=hR.files
 have hfiles:=hfiles0.1
 have hsynced:=hR.synced.1
 have hnow:=hR.now.1
 have hkept:=hR.kept.1
 have hacts:=hR.acts.1
 have hnl:=hL.now
 have hkl:=hL.kept
 have hal:=hL.acts
 refine gG (args:= [.agg (rdkC (Ac D,V)).toArray]) Tryz.func59 rfl 45 rfl rfl ?_
 have hE:=Ext.refl w
 refine gS (Yk.box (cs:=(rdkC (Ac D,V):List Value).toArray) (vr (.agg (rdkC (Ac D,V)).toArray) rfl) fun n w3 dz bs cq d0=> ?_)
 have c:=bs;clear bs
 have d1:n<w3.heap.size:=by omega
 refine gS (Yk.alloc (cs:=(rdkC ((⟨false,0,[],[],[],[],[],0,0,false⟩,⟨.slice none 0 0, .slice none 0 0, .slice none 0 0, .slice none 0 0, .slice none 0 0⟩):Au)).toArray) Ku fun q ao cr bt bo d2=> ?_)
 have p:=Ext.refl w3
 have hE:=hE.trans cq
 have ct:=hE.size
 have d3:=AE (bl c) cr
 have f:=bt;clear bt
 have d4:q<ao.heap.size:=by omega
 have s:=Ext.refl ao
 have hE:=hE.trans bo
 have cu:=hE.size
 have p:=p.trans bo
 have cv:=p.size
 have hrow0:OG ao.heap.size 35 1 (DF) ao (Value.slice none 0 0) ([]:List Value):=OG.nil _ _ _ _ _
 have cw:Value.ownBlock (Value.slice none 0 0)≠some n:=fun e_=>by cases e_
 have cx:Value.ownBlock (Value.slice none 0 0)≠some q:=fun e_=>by cases e_
 have hlw0:w.heap.size≤ao.heap.size:=hE.size
 have hvl:vs.length=D.files.length:=by rw[hvs.len,List.length_map]
 have hfl:=hL.files
 have hsl:(D.files.map fun x=>((x.2:Nat):Int)).length=D.files.length:=List.length_map _
 have c:=eb bo c
 refine gL (fun(ρ:Ai) (wz:World)=>∃i:Nat,∃us:List Value,∃r:Value,ρ 0=(.agg (rdkC (Ac D,V)).toArray:Value)∧ρ 1=(PQ n 0:Value)∧ρ 2=(PQ q 0:Value)∧ρ 4=(NI i:Value)∧ρ 3=(r:Value)∧Ext w wz∧wz.heap[n]? =some (.cells (rdkC (Ac D,V)).toArray 31 (0,0))∧Ext w3 wz∧wz.heap[q]? =some (.cells (rdkC ((⟨false,0,[],[],[],[],[],0,0,false⟩,⟨.slice none 0 0, .slice none 0 0, .slice none 0 0, .slice none 0 0, .slice none 0 0⟩):Au)).toArray 31 (0,0))∧Ext ao wz∧RowsO w.heap.size wz us ((D.files.map Prod.fst).take i)∧OG ao.heap.size 35 1 (DF) wz r (us)∧(i≤D.files.length)∧(us.length=i)∧(OB r n)∧(OB r q)∧True) (fun ρ _=>D.files.length-(intOf (ρ 4)).toNat) ⟨0,[],(Value.slice none 0 0),rfl,rfl,rfl,rfl,rfl,hE,c,p,f,s,RowsO.nil _ _,Bk hrow0 (rfl),Nat.zero_le _,rfl,cw,cx,trivial⟩ ?_
 clear hrow0
 clear hE c p f s
 rintro cy bu ⟨i,us,r,T0,T1,T2,T4,T3,hE,c,p,f,s,hFs,hr_r,hi,hul,hap_r_n2,hap_r_n10,-⟩
 have q4:=T4
 refine gS (Yk.fieldAt H5 T1 (gS (Yk.cell1 IY rfl rfl (cellAt c (C2 (Ac D,V))) (gS (Yk.lenRG IY (RG.of (hfiles.keep hE) rfl) (gS (Yk.eqI (a:=(i:Nat)) (b:=(vs.length:Nat)) T4 rfl (AO _ _ _ _) ?_)))))))
 refine cD rfl (fun bv=> ?_) fun bv=> ?_
 ·have al:=Ext.refl bu
  have c0:=hE.size
  have c1:=p.size
  have c2:=s.size
  have hlt:i<D.files.length:=by omega
  have hfk:=(hvs.at_ i (by rw[List.length_map];exact hlt)).1
  rw[C5 (d:=(([],0):List UInt8 × Nat)) rfl]at hfk
  have hfb:=hL.files _ (BD (d:=([],0)) hlt)
  have hFs0:=hFs
  refine gS (Yk.lit0 Ns fun bb c3 ad=> ?_)
  have c4:OB bb n:=Ao ad.own (bl c)
  have c5:OB bb q:=Ao ad.own (bl f)
  have bw:Ak bb r:=Be hr_r.2 ad.own
  have a3:=ad.own
  have c:=eb ad.ext c
  refine gS (Yk.fieldAt H5 T1 (gS (Yk.cell1 IY rfl rfl (cellAt c (C2 (Ac D,V))) ?_)))
  have hE:=hE.trans ad.ext
  have d5:(DF (vs.getD (i) undef)).length=1:=(RG.elem (hfiles.keep hE) undef (by omega))
  have al:=al.trans ad.ext
  refine gS (Yk.atRG IY NG (by decide) undef (RG.of (hfiles.keep hE) rfl) T4 (by omega) fun d6 bx=>(gS (Yk.loadC S2 rfl (PR.cell (PR.of bx rfl) rfl) (gS (Yk.appendRB _ _ bu.heap.size (.int .u8 0) S2 SH rfl S2 (([]:List UInt8)) ((D.files.getD i ([],0)).1) (CI a3 (vr bb rfl)) (RB.of (hfk.keep hE) (vr (vs.getD (i) undef) rfl)) (by simp only[List.length_nil];omega) al.size fun ap c6 aq ah=> ?_)))))
  have ah:Grew c3 c6 bb ap:=ah
  have hr_r:=hr_r.keep ad.ext
  have c7:Ak ap r:=AH ah bw hr_r.2
  have c8:Ak r ap:=fun k h1 h2=>c7 k h2 h1
  have hE:=Ag hE ah a3 c0
  have c:=Am c ah c4
  have p:=p.trans ad.ext
  have p:=Ag p ah a3 c1
  have f:=eb ad.ext f
  have f:=Am f ah c5
  have s:=s.trans ad.ext
  have s:=Ag s ah a3 c2
  have hr_r:=Av hr_r ah bw
  have al:=Ag al ah a3 (Nat.le_refl _)
  clear bx
  clear a3
  have hve:=RB.slice (RB.ofOwn aq)
  have hve1:=(CN aq).2
  have hpart:∀j,j<((D.files.map Prod.fst).take i).length→∀x,(us.getD j undef).ownBlock=some x→OB ap x:=fun j hj x hx e=>by have h1:=((hFs0.own j hj).lt x hx).2;have h2:=(aq.lt x e).1;omega
  refine gS (Yk.lit1S (a:=(ap)) (enc:=DF) (vr ap rfl) rfl (fun w=>by obtain⟨_,_,_,rfl⟩:=hve;exact Ql _ _ _ w) fun c9 da bz ar=> ?_)
  have al:=al.trans ar
  have s:=s.trans ar
  have hr_r:=hr_r.keep ar
  refine gS (Yk.appendRG _ _ ao.heap.size _ 24 IY rd3_ig35.choose_spec.1 rd3_ig35.choose_spec.2 IY (us) ([(ap)]) (OG.of hr_r T3) (RG.of bz (vr c9 rfl)) (fun y hy u hu=>by rw[List.mem_singleton.1 hu,List.mem_singleton.1 hy];exact hve1) (by simp only[List.length_append,List.length_map,List.length_nil,List.length_singleton];omega) (by simp only[List.length_append,List.length_map,List.length_nil,List.length_singleton];omega) s.size fun bf b0 db ae=> ?_)
  have ae:Grew da b0 r bf:= .eqv T3 ae
  have c:=eb ar c
  have dc:OB bf n:=Ax ae hap_r_n2 (bl c)
  have f:=eb ar f
  have dd:OB bf q:=Ax ae hap_r_n10 (bl f)
  have hE:=hE.trans ar
  have hE:=Ag hE ae hr_r.2 cu
  have c:=Am c ae hap_r_n2
  have p:=p.trans ar
  have p:=Ag p ae hr_r.2 cv
  have f:=Am f ae hap_r_n10
  have s:=Ag s ae hr_r.2 (Nat.le_refl _)
  have hFs:=hFs.keep al
  have hFs:RowsO w.heap.size b0 us ((D.files.map Prod.fst).take i):=RowsO.grew hFs ae hr_r.2 (by decide)
  clear al
  have aq:=Stab.own _ _ _ _ _ _ _ _ aq ar
  have aq:=Cl aq ae c8
  clear bz
  clear hr_r
  have hFs2:=Oj (hFs.snoc (CJ (l' :=(D.files.getD i ([],0)).1) (BZ aq (by omega)) (by simp)) hpart) hlt
  refine gS (Yk.bin (xv:=NI i) (yv:=NI 1) T4 rfl rfl (Ap _ _ _ (by omega)) (gK (And.intro ⟨i+1,us++ [ap],bf,T0,T1,T2,rfl,rfl,hE,c,p,f,s,hFs2,Bk db (rfl),by omega,by rw[List.length_append,List.length_singleton];omega,dc,dd,trivial⟩ ?_)))
  show D.files.length-(intOf (NI ((i)+(1)))).toNat<D.files.length-(intOf (cy 4)).toNat
  rw[q4]
  simp only[intOf,Int.toNat_natCast];omega
 have hie:i=D.files.length:=by have h:=bv;omega
 rw[hie,show D.files.length=(D.files.map Prod.fst).length from(List.length_map _).symm,List.take_length]at hFs
 refine gS (Yk.fieldAt H5 T1 (gS (Yk.storeC (i:=2) (v:=r) rfl T3 c (by rw[Ay];decide) Ok (RG.one (RG.ofOwn hr_r)).1 (RG.one (RG.ofOwn hr_r)).2 fun bg b1 bh d7=> ?_)))
 have hE:=Aa hE bh (Nat.le_trans (Nat.le_refl _) (by omega))
 clear p
 have f:=kb bh f (by omega)
 clear s
 have hFs:RowsO w.heap.size bg us ((D.files.map Prod.fst)):=RowsO.set hFs bh c (by decide)
 have hr_r:=OG.kept hr_r bh hap_r_n2
 clear c
 have c:bg.heap[n]? =some (.cells (rdkC ((⟨true,((D.quota:Nat):Int),(D.files.map Prod.fst),(D.files.map fun x=>((x.2:Nat):Int)),D.now,D.kept,D.acts,D.refused,D.arm,D.down⟩,⟨r,V.synced,V.now,V.kept,V.acts⟩):Au)).toArray 31 (0,0)):=AF b1 (Km (Ac D,V) r ((D.files.map Prod.fst)));clear b1
 have d8:=bl c
 have a4:=Ext.refl bg
 have de:=hE.size
 refine gS (Yk.lit0G (k:=1) (enc:=DG) Om fun bc b2 au a5=> ?_)
 have b3:OB bc q:=Ao au.2 (bl f)
 have b4:OB bc n:=Ao au.2 (bl c)
 have df:Ak bc r:=Be hr_r.2 au.2
 have hFs:RowsO w.heap.size b2 us ((D.files.map Prod.fst)):=(hFs.keep a5)
 have hE:=hE.trans a5
 have c:=eb a5 c
 have a4:=a4.trans a5
 refine gS (Yk.fieldAt H6 T1 (gS (Yk.cell1 Du rfl rfl (cellAt c (Gw ((⟨true,((D.quota:Nat):Int),(D.files.map Prod.fst),(D.files.map fun x=>((x.2:Nat):Int)),D.now,D.kept,D.acts,D.refused,D.arm,D.down⟩,⟨r,V.synced,V.now,V.kept,V.acts⟩):Au))) (gS (Yk.appendRG _ _ bg.heap.size _ 8 Du rd3_ig3.choose_spec.1 rd3_ig3.choose_spec.2 Du ([]) ((D.files.map fun x=>((x.2:Nat):Int))) (OG.of au (vr bc rfl)) (RG.of (hsynced.keep hE) (vr V.synced rfl)) (fun y hy u hu=>by rw[List.mem_singleton.1 hu];rfl) (by simp only[List.length_append,List.length_map,List.length_nil,List.length_singleton];omega) (by simp only[List.length_append,List.length_map,List.length_nil,List.length_singleton];omega) a4.size fun l b5 g ai=> ?_)))))
 have ai:Grew b2 b5 bc l:=ai
 have f:=eb a5 f
 have dh:OB l q:=Ax ai b3 (bl f)
 have bi:OB l n:=Ax ai b4 (bl c)
 have hE:=Ag hE ai au.2 de
 have f:=Am f ai b3
 have hFs:RowsO w.heap.size b5 us ((D.files.map Prod.fst)):=RowsO.grew hFs ai au.2 (by decide)
 have hr_r:=hr_r.keep a5
 have hr_r:=Av hr_r ai df
 have c:=Am c ai b4
 have a4:=Ag a4 ai au.2 (Nat.le_refl _)
 clear au
 refine gS (Yk.fieldAt H6 T1 (gS (Yk.storeC (i:=3) (v:=l) rfl rfl c (by rw[Ay];decide) Nt (RG.one (RG.ofOwn g)).1 (RG.one (RG.ofOwn g)).2 fun bj b6 bd d9=> ?_)))
 have hE:=Aa hE bd (Nat.le_trans (Nat.le_refl _) (by omega))
 have f:=kb bd f (by omega)
 have hFs:RowsO w.heap.size bj us ((D.files.map Prod.fst)):=RowsO.set hFs bd c (by decide)
 have hr_r:=OG.kept hr_r bd hap_r_n2
 clear a4
 have g:=OG.kept g bd bi
 clear c
 have c:bj.heap[n]? =some (.cells (rdkC ((⟨true,((D.quota:Nat):Int),(D.files.map Prod.fst),(D.files.map fun x=>((x.2:Nat):Int)),D.now,D.kept,D.acts,D.refused,D.arm,D.down⟩,⟨r,l,V.now,V.kept,V.acts⟩):Au)).toArray 31 (0,0)):=AF b6 (Kn ((⟨true,((D.quota:Nat):Int),(D.files.map Prod.fst),(D.files.map fun x=>((x.2:Nat):Int)),D.now,D.kept,D.acts,D.refused,D.arm,D.down⟩,⟨r,V.synced,V.now,V.kept,V.acts⟩):Au) l ((D.files.map fun x=>((x.2:Nat):Int))));clear b6
 have ea:=bl c
 have a6:=Ext.refl bj
 have di:=hE.size
 refine gS (Yk.lit0G (k:=2) (enc:=renC) Jd fun a7 b7 am a0=> ?_)
 have b8:OB a7 q:=Ao am.2 (bl f)
 have b9:OB a7 n:=Ao am.2 (bl c)
 have dj:Ak a7 r:=Be hr_r.2 am.2
 have dk:Ak a7 l:=Be g.2 am.2
 have hFs:RowsO w.heap.size b7 us ((D.files.map Prod.fst)):=(hFs.keep a0)
 have hE:=hE.trans a0
 have c:=eb a0 c
 have a6:=a6.trans a0
 refine gS (Yk.fieldAt Ct T1 (gS (Yk.cell1 Bn rfl rfl (cellAt c (BU ((⟨true,((D.quota:Nat):Int),(D.files.map Prod.fst),(D.files.map fun x=>((x.2:Nat):Int)),D.now,D.kept,D.acts,D.refused,D.arm,D.down⟩,⟨r,l,V.now,V.kept,V.acts⟩):Au))) (gS (Yk.appendRG _ _ bj.heap.size _ 24 Bn rd1_ig83.choose_spec.1 rd1_ig83.choose_spec.2 Bn ([]) (D.now) (OG.of am (vr a7 rfl)) (RG.of (hnow.keep hE) (vr V.now rfl)) (fun _ _=>CG) (by simp only[List.length_append,List.length_map,List.length_nil,List.length_singleton];omega) (by simp only[List.length_append,List.length_map,List.length_nil,List.length_singleton];omega) a6.size fun o ca m af=> ?_)))))
 have af:Grew b7 ca a7 o:=af
 have f:=eb a0 f
 have dl:OB o q:=Ax af b8 (bl f)
 have br:OB o n:=Ax af b9 (bl c)
 have hE:=Ag hE af am.2 di
 have f:=Am f af b8
 have hFs:RowsO w.heap.size ca us ((D.files.map Prod.fst)):=RowsO.grew hFs af am.2 (by decide)
 have hr_r:=hr_r.keep a0
 have hr_r:=Av hr_r af dj
 have g:=g.keep a0
 have g:=Av g af dk
 have c:=Am c af b9
 have a6:=Ag a6 af am.2 (Nat.le_refl _)
 clear am
 refine gS (Yk.fieldAt Ct T1 (gS (Yk.storeC (i:=4) (v:=o) rfl rfl c (by rw[Ay];decide) Je (RG.one (RG.ofOwn m)).1 (RG.one (RG.ofOwn m)).2 fun bk cb a8 ec=> ?_)))
 have hE:=Aa hE a8 (Nat.le_trans (Nat.le_refl _) (by omega))
 have f:=kb a8 f (by omega)
 have hFs:RowsO w.heap.size bk us ((D.files.map Prod.fst)):=RowsO.set hFs a8 c (by decide)
 have hr_r:=OG.kept hr_r a8 hap_r_n2
 have g:=OG.kept g a8 bi
 clear a6
 have m:=OG.kept m a8 br
 clear c
 have c:bk.heap[n]? =some (.cells (rdkC ((⟨true,((D.quota:Nat):Int),(D.files.map Prod.fst),(D.files.map fun x=>((x.2:Nat):Int)),D.now,D.kept,D.acts,D.refused,D.arm,D.down⟩,⟨r,l,o,V.kept,V.acts⟩):Au)).toArray 31 (0,0)):=AF cb (HZ ((⟨true,((D.quota:Nat):Int),(D.files.map Prod.fst),(D.files.map fun x=>((x.2:Nat):Int)),D.now,D.kept,D.acts,D.refused,D.arm,D.down⟩,⟨r,l,V.now,V.kept,V.acts⟩):Au) o (D.now));clear cb
 have ed:=bl c
 have a9:=Ext.refl bk
 have dm:=hE.size
 refine gS (Yk.lit0G (k:=2) (enc:=renC) Jd fun a1 cc aj av=> ?_)
 have cd:OB a1 q:=Ao aj.2 (bl f)
 have ce:OB a1 n:=Ao aj.2 (bl c)
 have dn:Ak a1 r:=Be hr_r.2 aj.2
 have dp:Ak a1 l:=Be g.2 aj.2
 have dq:Ak a1 o:=Be m.2 aj.2
 have hFs:RowsO w.heap.size cc us ((D.files.map Prod.fst)):=(hFs.keep av)
 have hE:=hE.trans av
 have c:=eb av c
 have a9:=a9.trans av
 refine gS (Yk.fieldAt H7 T1 (gS (Yk.cell1 Bn rfl rfl (cellAt c (Ob ((⟨true,((D.quota:Nat):Int),(D.files.map Prod.fst),(D.files.map fun x=>((x.2:Nat):Int)),D.now,D.kept,D.acts,D.refused,D.arm,D.down⟩,⟨r,l,o,V.kept,V.acts⟩):Au))) (gS (Yk.appendRG _ _ bk.heap.size _ 24 Bn rd1_ig83.choose_spec.1 rd1_ig83.choose_spec.2 Bn ([]) (D.kept) (OG.of aj (vr a1 rfl)) (RG.of (hkept.keep hE) (vr V.kept rfl)) (fun _ _=>CG) (by simp only[List.length_append,List.length_map,List.length_nil,List.length_singleton];omega) (by simp only[List.length_append,List.length_map,List.length_nil,List.length_singleton];omega) a9.size fun z cf t ac=> ?_)))))
 have ac:Grew cc cf a1 z:=ac
 have f:=eb av f
 have dr:OB z q:=Ax ac cd (bl f)
 have cg:OB z n:=Ax ac ce (bl c)
 have hE:=Ag hE ac aj.2 dm
 have f:=Am f ac cd
 have hFs:RowsO w.heap.size cf us ((D.files.map Prod.fst)):=RowsO.grew hFs ac aj.2 (by decide)
 have hr_r:=hr_r.keep av
 have hr_r:=Av hr_r ac dn
 have g:=g.keep av
 have g:=Av g ac dp
 have m:=m.keep av
 have m:=Av m ac dq
 have c:=Am c ac ce
 have a9:=Ag a9 ac aj.2 (Nat.le_refl _)
 clear aj
 refine gS (Yk.fieldAt H7 T1 (gS (Yk.storeC (i:=5) (v:=z) rfl rfl c (by rw[Ay];decide) Je (RG.one (RG.ofOwn t)).1 (RG.one (RG.ofOwn t)).2 fun bm ch a2 ee=> ?_)))
 have hE:=Aa hE a2 (Nat.le_trans (Nat.le_refl _) (by omega))
 have f:=kb a2 f (by omega)
 have hFs:RowsO w.heap.size bm us ((D.files.map Prod.fst)):=RowsO.set hFs a2 c (by decide)
 have hr_r:=OG.kept hr_r a2 hap_r_n2
 have g:=OG.kept g a2 bi
 have m:=OG.kept m a2 br
 clear a9
 have t:=OG.kept t a2 cg
 clear c
 have c:bm.heap[n]? =some (.cells (rdkC ((⟨true,((D.quota:Nat):Int),(D.files.map Prod.fst),(D.files.map fun x=>((x.2:Nat):Int)),D.now,D.kept,D.acts,D.refused,D.arm,D.down⟩,⟨r,l,o,z,V.acts⟩):Au)).toArray 31 (0,0)):=AF ch (Ko ((⟨true,((D.quota:Nat):Int),(D.files.map Prod.fst),(D.files.map fun x=>((x.2:Nat):Int)),D.now,D.kept,D.acts,D.refused,D.arm,D.down⟩,⟨r,l,o,V.kept,V.acts⟩):Au) z (D.kept));clear ch
 have ef:=bl c
 have ba:=Ext.refl bm
 have ds:=hE.size
 refine gS (Yk.lit0G (k:=3) (enc:=racC) Oo fun aw ci ag an=> ?_)
 have cj:OB aw q:=Ao ag.2 (bl f)
 have ck:OB aw n:=Ao ag.2 (bl c)
 have dt:Ak aw r:=Be hr_r.2 ag.2
 have du:Ak aw l:=Be g.2 ag.2
 have dv:Ak aw o:=Be m.2 ag.2
 have dw:Ak aw z:=Be t.2 ag.2
 have hFs:RowsO w.heap.size ci us ((D.files.map Prod.fst)):=(hFs.keep an)
 have hE:=hE.trans an
 have c:=eb an c
 have ba:=ba.trans an
 refine gS (Yk.fieldAt H9 T1 (gS (Yk.cell1 Hj rfl rfl (cellAt c (Gx ((⟨true,((D.quota:Nat):Int),(D.files.map Prod.fst),(D.files.map fun x=>((x.2:Nat):Int)),D.now,D.kept,D.acts,D.refused,D.arm,D.down⟩,⟨r,l,o,z,V.acts⟩):Au))) (gS (Yk.appendRG _ _ bm.heap.size _ 40 Hj rd3_ig114.choose_spec.1 rd3_ig114.choose_spec.2 Hj ([]) (D.acts) (OG.of ag (vr aw rfl)) (RG.of (hacts.keep hE) (vr V.acts rfl)) (fun _ _=>Fi) (by simp only[List.length_append,List.length_map,List.length_nil,List.length_singleton];omega) (by simp only[List.length_append,List.length_map,List.length_nil,List.length_singleton];omega) ba.size fun ak cl ax ab=> ?_)))))
 have ab:Grew ci cl aw ak:=ab
 have f:=eb an f
 have dx:OB ak q:=Ax ab cj (bl f)
 have dy:OB ak n:=Ax ab ck (bl c)
 have hE:=Ag hE ab ag.2 ds
 have f:=Am f ab cj
 have hFs:RowsO w.heap.size cl us ((D.files.map Prod.fst)):=RowsO.grew hFs ab ag.2 (by decide)
 have hr_r:=hr_r.keep an
 have hr_r:=Av hr_r ab dt
 have g:=g.keep an
 have g:=Av g ab du
 have m:=m.keep an
 have m:=Av m ab dv
 have t:=t.keep an
 have t:=Av t ab dw
 have c:=Am c ab ck
 have ba:=Ag ba ab ag.2 (Nat.le_refl _)
 clear ag
 refine gS (Yk.fieldAt H9 T1 (gS (Yk.storeC (i:=6) (v:=ak) rfl rfl c (by rw[Ay];decide) Oq (RG.one (RG.ofOwn ax)).1 (RG.one (RG.ofOwn ax)).2 fun cm cn ay eg=> ?_)))
 have hE:=Aa hE ay (Nat.le_trans (Nat.le_refl _) (by omega))
 have f:=kb ay f (by omega)
 have hFs:RowsO w.heap.size cm us ((D.files.map Prod.fst)):=RowsO.set hFs ay c (by decide)
 have hr_r:=OG.kept hr_r ay hap_r_n2
 have g:=OG.kept g ay bi
 have m:=OG.kept m ay br
 have t:=OG.kept t ay cg
 clear ba
 have ax:=OG.kept ax ay dy
 clear c
 have c:cm.heap[n]? =some (.cells (rdkC ((⟨true,((D.quota:Nat):Int),(D.files.map Prod.fst),(D.files.map fun x=>((x.2:Nat):Int)),D.now,D.kept,D.acts,D.refused,D.arm,D.down⟩,⟨r,l,o,z,ak⟩):Au)).toArray 31 (0,0)):=AF cn (H0 ((⟨true,((D.quota:Nat):Int),(D.files.map Prod.fst),(D.files.map fun x=>((x.2:Nat):Int)),D.now,D.kept,D.acts,D.refused,D.arm,D.down⟩,⟨r,l,o,z,V.acts⟩):Au) ak (D.acts));clear cn
 have eh:=bl c
 refine gS (Yk.loadSt Ej T1 c (gS (Yk.storeSt Ej T2 (vr (.agg (rdkC ((⟨true,((D.quota:Nat):Int),(D.files.map Prod.fst),(D.files.map fun x=>((x.2:Nat):Int)),D.now,D.kept,D.acts,D.refused,D.arm,D.down⟩,⟨r,l,o,z,ak⟩):Au)).toArray) rfl) f (AA (x:=((⟨true,((D.quota:Nat):Int),(D.files.map Prod.fst),(D.files.map fun x=>((x.2:Nat):Int)),D.now,D.kept,D.acts,D.refused,D.arm,D.down⟩,⟨r,l,o,z,ak⟩):Au)) (RG.one (RG.ofOwn hr_r)).2 (RG.one (RG.ofOwn g)).2 (RG.one (RG.ofOwn m)).2 (RG.one (RG.ofOwn t)).2 (RG.one (RG.ofOwn ax)).2) fun co cp az ei=> ?_)))
 have hE:=Aa hE az (Nat.le_trans ct (by omega))
 have hFs:RowsO w.heap.size co us ((D.files.map Prod.fst)):=RowsO.set hFs az f (by decide)
 have hr_r:=OG.kept hr_r az hap_r_n10
 have g:=OG.kept g az dh
 have m:=OG.kept m az dl
 have t:=OG.kept t az dr
 have ax:=OG.kept ax az dx
 have c:=kb az c (by omega)
 clear f
 have f:co.heap[q]? =some (.cells (rdkC ((⟨true,((D.quota:Nat):Int),(D.files.map Prod.fst),(D.files.map fun x=>((x.2:Nat):Int)),D.now,D.kept,D.acts,D.refused,D.arm,D.down⟩,⟨r,l,o,z,ak⟩):Au)).toArray 31 (0,0)):=cp;clear cp
 have ej:=bl f
 refine F6 rfl (ResF.row T2 f (FH).choose_spec rfl (AN (Ay _) E0)) ?_
 exact⟨⟨r,l,o,z,ak⟩,rfl,⟨⟨us,hFs,(OG.low hr_r (by omega))⟩,(OG.low g (by omega)),(OG.low m (by omega)),(OG.low t (by omega)),(OG.low ax (by omega))⟩,hE⟩
open Go.RowKit
set_option linter.unusedVariables false
set_option linter.unusedSimpArgs false
theorem AW{w:World}{u v:Value}{b b' k k' n n' :Nat}{t t' :TypeId}{xs ys:List Value}(hu:w.ownsRow b t k u n xs)(hv:w.ownsRow b' t' k' v n' ys)(ht:t≠t'):Ak u v:=fun i h1 h2=>BC (Ck hu h1) (Ck hv h2) (fun q=>ht (by simpa using q)) rfl
theorem Cf{w:World}{u:Value}{b k n:Nat}{t t' :TypeId}{xs:List Value}{g:Nat}{cs:Array Value}{fr:Nat × Nat}(hu:w.ownsRow b t k u n xs)(hg:w.heap[g]? =some (.cells cs t' fr))(ht:t≠t'):u.ownBlock≠some g:=fun q=>BC (Ck hu q) (BF hg) (fun e=>ht (by simpa using e)) rfl
theorem RowsO.low{base b' :Nat}{w:World}{vs:List Value}{ls:List (List UInt8)}(h:RowsO base w vs ls)(hb:b' ≤base):RowsO b' w vs ls:=⟨h.len,fun i hi=>BZ (h.own i hi) hb,h.apart⟩
theorem RowsO.eq{base:Nat}{w:World}{vs vs' :List Value}{ls ls' :List (List UInt8)}(h:RowsO base w vs ls)(a:vs=vs')(b:ls=ls'):RowsO base w vs' ls' :=by rw[←a,←b];exact h
theorem Hk{α:Type}{l:List α}{k i:Nat}{x d:α}(hk:k<l.length):(l.set k x).getD i d=if i=k then x else l.getD i d:=by
  rw[List.getD_eq_getElem?_getD,List.getD_eq_getElem?_getD,List.getElem?_set]
  by_cases h:k=i
  · subst h;simp[hk]
  · simp[h,Ne.symm h]
theorem RowsO.setRow{base:Nat}{w w' :World}{vs:List Value}{ls:List (List UInt8)}(h:RowsO base w vs ls){k:Nat}(hk:k<ls.length){B:Nat→Prop}(hc:Chg B w w')(hB:∀i,i<w.heap.size→B i→(vs.getD k undef).ownBlock=some i∨Cj w i≠some (5+1)){v:Value}{l:List UInt8}(hv:w'.ownsRow base 5 1 v l.length (Lib.byteCells l))(hf:∀i,v.ownBlock=some i→(vs.getD k undef).ownBlock=some i∨w.heap.size≤i):
    RowsO base w' (vs.set k v) (ls.set k l):=by
  have hvk:k<vs.length:=by rw[h.len];exact hk
  refine⟨by rw[List.length_set,List.length_set,h.len],fun i hi=> ?_,fun i j hi hj hne x hx=> ?_⟩
  · rw[List.length_set]at hi
    rw[Hk hvk,Hk hk]
    by_cases e:i=k
    · rw[if_pos e,if_pos e];exact hv
    · rw[if_neg e,if_neg e]
      refine CC hc (h.own i hi) fun x hx q=> ?_
      rcases hB x ((h.own i hi).lt x hx).2 q with q | q
      · exact h.apart i k hi hk e x hx q
      · exact q (Ck (h.own i hi) hx)
  · rw[List.length_set]at hi hj
    rw[Hk hvk]at hx ⊢
    by_cases ei:i=k
    · rw[if_pos ei]at hx
      have ej:¬j=k:=fun q=>hne (ei.trans q.symm)
      rw[if_neg ej]
      rcases hf x hx with q | q
      · exact fun y=>h.apart k j hk hj (Ne.symm ej) x q y
      · exact fun y=>by have:=((h.own j hj).lt x y).2;omega
    · rw[if_neg ei]at hx
      by_cases ej:j=k
      · rw[if_pos ej]
        intro y
        rcases hf x y with q | q
        · exact h.apart i k hi hk ei x hx q
        · have:=((h.own i hi).lt x hx).2
          omega
      · rw[if_neg ej];exact h.apart i j hi hj hne x hx
section
variable {P : Nat → Prop} {base : Nat} {w : World} {D D' : An} {V V' : Cn}
theorem RdO.same(h:RdO base w D V)(a:D'.files=D.files)(b:D'.now=D.now)(c:D'.kept=D.kept)(e:D'.acts=D.acts):RdO base w D' V:=
  ⟨by rw[a];exact h.files,by rw[a];exact h.synced,by rw[b];exact h.now,by rw[c];exact h.kept,by rw[e];exact h.acts⟩
theorem RdO.keep{w' :World}(h:RdO base w D V)(k:Ext w w'):RdO base w' D V:=by
  obtain⟨vs,h1,h2⟩:=h.files
  exact⟨⟨vs,h1.keep k,h2.keep k⟩,h.synced.keep k,h.now.keep k,h.kept.keep k,h.acts.keep k⟩
theorem Dd(D:An):(Bh D).1.files=D.files∧(Bh D).1.now=D.now∧(Bh D).1.kept=D.kept∧(Bh D).1.acts=D.acts∧(Bh D).1.quota=D.quota∧(Bh D).1.refused=D.refused:=by
  unfold Bh
  split <;> exact⟨rfl,rfl,rfl,rfl,rfl,rfl⟩
theorem KA(h:DOk D):DOk (Bh D).1:=by
  obtain⟨a,b,c,e,-,-⟩:=Dd D
  exact⟨by rw[a,b];exact h.now,by rw[a,c];exact h.kept,by rw[a,e];exact h.acts,by rw[a];exact h.syn⟩
theorem RdO.armed(h:RdO base w D V):RdO base w (Bh D).1 V:=by
  obtain⟨a,b,c,e,-⟩:=Dd D
  exact h.same a b c e
theorem KB(h:Co D):Co (Bh D).1:=by
  obtain⟨a,b,e,c,f,g⟩:=Dd D
  refine⟨by rw[f];exact h.quota,?_,by rw[g];exact h.refused,?_,by rw[c];exact h.acts,by rw[b];exact h.now,by rw[e,c];exact h.kept,by rw[a];exact h.files⟩
  · have:usedD (Bh D).1=usedD D:=by unfold usedD AJ;rw[a,b]
    rw[this];exact h.used
  · have:=h.arm
    unfold Bh
    split
    · exact this
    · show D.arm-1<_;omega
end
section
variable {D D1 : An} {s b : List UInt8} {dn : Bool}
theorem MO(h:A6 D s s≠0):Af D s b=(D,A6 D s s):=if_pos h
theorem KC(h:¬A6 D s s≠0)(hf:D.quota<usedD D+b.length):Af D s b=({ D with refused:=D.refused+1 },8):=(if_neg h).trans (if_pos hf)
theorem KD(h:¬A6 D s s≠0)(hf:¬D.quota<usedD D+b.length)(ha:Bh D=(D1,true)):Af D s b=(D1,9):=by
  unfold Af
  rw[if_neg h,if_neg hf,ha,if_pos rfl]
theorem GY(h:¬A6 D s s≠0)(hf:¬D.quota<usedD D+b.length)(ha:Bh D=(D1,false)):Af D s b=(BN D1 s b,0):=by
  unfold Af
  rw[if_neg h,if_neg hf,ha,if_neg (by simp)]
theorem KE{f:An→An}(ha:Bh D=(D1,true)):CR D f=(D1,9):=by
  unfold CR
  rw[ha,if_pos rfl]
theorem LS{f:An→An}(ha:Bh D=(D1,false)):CR D f=(f D1,0):=by
  unfold CR
  rw[ha,if_neg (by simp)]
theorem LT{t:List UInt8}(h:A6 D s t≠0):C8 D s t = .error (A6 D s t):=if_pos h
theorem Jf{t:List UInt8}(h:¬A6 D s t≠0)(hk:AD D.now s=none):C8 D s t = .error 4:=by unfold C8;rw[if_neg h,hk]
theorem E2{t:List UInt8}{k:Nat}(h:¬A6 D s t≠0)(hk:AD D.now s=some k):C8 D s t = .ok k:=by unfold C8;rw[if_neg h,hk]
theorem Lm{l:List (List UInt8 × Nat)}{k:Nat}{x:List UInt8 × Nat}:(l.set k x).map Prod.fst=(l.map Prod.fst).set k x.1:=List.map_set
theorem Ln{l:List (List UInt8 × Nat)}{k:Nat}{x:List UInt8}(hk:k<l.length):(l.set k (x,(l.getD k ([],0)).2)).map (fun x=>((x.2:Nat):Int))=l.map (fun x=>((x.2:Nat):Int)):=by
  rw[List.map_set]
  refine List.ext_getElem (by simp) fun i h1 h2=> ?_
  rw[List.getElem_set]
  split
  · rename_i e;subst e
    rw[List.getD_eq_getElem?_getD,List.getElem?_eq_getElem hk]
    simp
  · rfl
theorem Qm(h:AD D.now s=none):BN D s b = { turnedD D ⟨[],s,D.files.length⟩with files:=D.files++ [(b,0)] } :=by unfold BN;rw[h]
end
section
variable {P : Program} {K : Value → World → Prop} {ρ : Ai} {w : World} {d : Option Tmp} {ty : TypeId} {pos : String} {af : Array Edge} {gd : Option (Nat × Bool)}
theorem Yk.lenRGe{α:Type}{k:Nat}{enc:α→List Value}{l:List α}{n:Nat}{t e:TypeId}(ht:P.underlying t=some (.slice e)){x:Operand}{w0:World}(h:RG k enc w0 (Ab ρ x) l)(hn:l.length=n)(hk:K (NI n) w):Yk P K ((execOp (Ab ρ) ⟨d, .call ⟨.builtin .len,#[x],#[t]⟩,ty,pos,af,gd⟩).run P w):=
  Yk.lenRG ht h (hn▸hk)
theorem OG.cell1{α:Type}{b:Nat}{t:TypeId}{enc:α→List Value}{v:Value}{l:List α}{g i:Nat}{c:Value}(dd:α)(h:OG b t 1 enc w v l)(hg:v.ownBlock=some g)(hi:i<l.length)(hc:enc (l.getD i dd)= [c]):PCell c (PQ g (i*1)) w:=by
  obtain⟨hen,hxl,⟨-,h0⟩ | ⟨g',cap,cur,rfl,hb,hh,hn,hm,hs,ht⟩⟩:=h
  · omega
  · obtain rfl:g' =g:=by simpa [Value.ownBlock] using hg
    refine⟨_,rfl,cellAt (l:=cur.toList) (by rw[Array.toArray_toList];exact hh) ?_⟩
    obtain⟨c1,-⟩:=Eo dd l i dd hen hi
    have hpre:=CV (l.take i) (fun y hy=>hen y (List.mem_of_mem_take hy))
    rw[List.length_take,Nat.min_eq_left (Nat.le_of_lt hi)]at hpre
    have e:(cur.toList.take (l.length*1))[i*1]? =some c:=by
      rw[ht,c1,hc,List.append_assoc,List.getElem?_append_right (by omega),hpre,Nat.sub_self]
      rfl
    rwa [List.getElem?_take_of_lt (by omega)]at e
theorem MP{t e:TypeId}(ht:P.underlying t=some (.slice e))(he:∀w' :World,(sizeOf e).run P w' = .ok 1 w'){v:Value}{xs:List UInt8}(h:RB w v xs)(k:IntKind){n:Nat}(hn:n≤xs.length):∃ao c,(∀w:World,(Instr.sliceAt t v none (some (.int k ((n:Nat):Int))) none).run P w = .ok (.slice ao n c) w)∧RB w (.slice ao n c) (xs.take n):=by
  obtain⟨ao,c,⟨h1,-⟩,h2⟩:=Dt ht he h none (some (.int k ((n:Nat):Int))) 0 n (Nat.zero_le _) hn (.inl ⟨rfl,rfl⟩) (.inr ⟨k,rfl⟩)
  have h3:=RB.take_drop hn h2
  rw[List.drop_zero,Nat.sub_zero]at h3
  exact⟨ao,c,h1,h3⟩
theorem Yk.sliceHiR{t:TypeId}{x hi:Operand}{v v' h:Value}(hx:Ab ρ x=v)(hhi:Ab ρ hi=h)(hrun:∀w:World,(Instr.sliceAt t v none (some h) none).run P w = .ok v' w)(hk:K v' w):Yk P K ((execOp (Ab ρ) ⟨d, .slice t x none (some hi) none,ty,pos,af,gd⟩).run P w):=by
  refine Yk.value (v:=v') (w' :=w) ?_ hk
  unfold execOp
  simp only[hx,hhi,Option.map_some,Option.map_none,hrun,Sem.run_bind,Sem.run_pure,Result.andThen_ok]
theorem Yk.storeOG1{α:Type}{b:Nat}{t t' :TypeId}{enc:α→List Value}{v:Value}{l:List α}{g i:Nat}{a:α}{c:Value}{x y:Operand}(dd:α)(hx:Ab ρ x=PQ g (i*1))(hy:Ab ρ y=c)(hea:enc a= [c])(h:OG b t 1 enc w v l)(hg:v.ownBlock=some g)(hi:i<l.length)(h1:c.cells = #[c]∧c.oneCell' =true)(hinfo:(P.info? t').map (·.size)=some 1) 
    (hk:∀w',OG b t 1 enc w' v (l.set i a)→Grew w w' v v→K undef w'):Yk P K ((execOp (Ab ρ) ⟨d, .store t' x y,ty,pos,af,gd⟩).run P w):=by
  obtain⟨hen,hxl,⟨-,h0⟩ | ⟨g',cap,cur,rfl,hb,hh,hn,hm,hs,ht⟩⟩:=h
  · omega
  · obtain rfl:g' =g:=by simpa [Value.ownBlock] using hg
    obtain⟨c1,c2⟩:=Eo dd l i a hen hi
    have hpre:=CV (l.take i) (fun y hy=>hen y (List.mem_of_mem_take hy))
    rw[List.length_take,Nat.min_eq_left (Nat.le_of_lt hi)]at hpre
    have hd:(enc (l.getD i dd)).length=1:=hen _ (getD_memO dd hi)
    obtain⟨T,hcur⟩:∃T,cur=((l.take i).flatMap enc++enc (l.getD i dd)++((l.drop (i+1)).flatMap enc++T)).toArray:=by
      refine⟨cur.toList.drop (l.length*1),?_⟩
      apply Array.toList_inj.1
      rw[List.toList_toArray,←List.append_assoc,←c1,←ht,List.take_append_drop]
    rw[hcur]at hh
    have hset:((l.take i).flatMap enc++enc (l.getD i dd)++((l.drop (i+1)).flatMap enc++T)).set (i*1) c=(l.set i a).flatMap enc++T:=by
      obtain⟨z,hz⟩:∃z,enc (l.getD i dd)= [z]:=by
        match q:enc (l.getD i dd),hd with
        | [z],_=>exact⟨z,rfl⟩
      rw[c2,hea,hz,List.append_assoc,List.set_append_right _ _ (by omega),hpre,Nat.sub_self]
      simp
    have hlen:((l.set i a).flatMap enc).length=(l.set i a).length*1:=CV _ (fun y hy=>by rcases List.mem_or_eq_of_mem_set hy with hy | rfl;exact hen y hy;rw[hea];rfl)
    refine Yk.storeC hx hy hh (by simp only[List.length_append,hpre,hd];omega) hinfo h1.1 h1.2 fun w' e f j=>hk w' ⟨fun y hy=> ?_,hlen, .inr ⟨g',cap,_,by rw[List.length_set],hb,e,by rw[List.length_set];exact hn,hm,?_,?_⟩⟩ ⟨f,fun k hk=> .inl hk⟩
    · rcases List.mem_or_eq_of_mem_set hy with hy | rfl
      · exact hen y hy
      · rw[hea];rfl
    · rw[←hs,hcur];simp only[List.size_toArray,List.length_set]
    · rw[List.toList_toArray,hset,←hlen]
      exact List.take_left
end
open Go.RowKit
set_option maxRecDepth 100000
set_option linter.unusedVariables false
set_option linter.unusedSimpArgs false
theorem Hl{P:Nat→Prop}(w:World)(D:An)(V:Cn)(hR:RdAt P w D V)(hL:Co D){D1:An}{dn:Bool}(hD:Bh D=(D1,dn)):
  Calls Tryz.prog 61 #[.agg (rdkC (Ac D,V)).toArray] w fun e w' =>e = .returned (.tuple #[.agg (rdkC (Ac D1,V)).toArray, .bool dn])∧Ext w w' :=by
 have h:=Or w D V hR hL
 rw[hD]at h
 exact h
theorem Gz{D:An}{s t:List UInt8}(h:A6 D s t=0):Bu s=true:=by
 unfold A6 at h
 split at h
 ·cases h
 ·split at h
  ·rename_i q;exact q.1
  ·cases h
theorem KF{l:List (List UInt8 × Nat)}{k n:Nat}(hk:k<l.length):(l.set k ((l.getD k ([],0)).1,n)).map Prod.fst=l.map Prod.fst:=by
 rw[List.map_set]
 refine List.ext_getElem (by simp) fun i h1 h2=> ?_
 rw[List.getElem_set]
 split
 ·rename_i e;subst e
  rw[List.getD_eq_getElem?_getD,List.getElem?_eq_getElem hk]
  simp
 ·rfl
theorem KG{l:List (List UInt8 × Nat)}{k:Nat}{x:List UInt8 × Nat}:(l.set k x).map (fun x=>((x.2:Nat):Int))=(l.map (fun x=>((x.2:Nat):Int))).set k ((x.2:Nat):Int):=List.map_set
theorem MQ{l:List (List UInt8)}{n:Nat}(h:l.length=n):(l++ [[]]).getD n []= []:=by subst h;exact DW
theorem Qn{l:List (List UInt8)}{x y:List UInt8}:(l++ [x]).set l.length y=l++ [y]:=by
 rw[List.set_append_right _ _ (Nat.le_refl _),Nat.sub_self];rfl
theorem AL:GP Tryz.prog 31 rdkC:=⟨⟨_,(FH).choose_spec⟩,fun x=>AN (Ay x) E0⟩
theorem Hm:Plain Tryz.prog 59:=fun _ _=>by kernel_rfl
theorem MR:A3 Tryz.prog 31 1 1:=fun b o w=>by simp[go_sem]
theorem Qo:Plain Tryz.prog 60:=fun _ _=>by kernel_rfl
theorem Ia:A3 Tryz.prog 31 7 7:=fun b o w=>by simp[go_sem]
theorem Hn:Plain Tryz.prog 61:=fun _ _=>by kernel_rfl
theorem IC(z1:ByteArray)(z2:Int)(w:World):(Instr.build 114 #[(1, .string z1),(2, .int .i64 z2)]).run Tryz.prog w = .ok (.agg #[.string ⟨#[]⟩, .string z1, .int .i64 z2]) w:=by kernel_rfl
theorem Jy(z1:List UInt8)(z2:Nat)(w:World):(Instr.build 114 #[(1,St z1),(2,NI z2)]).run Tryz.prog w = .ok (.agg (St ([]) :: (St (z1) :: (NI (z2) :: ([])))).toArray) w:=by
 exact IC _ _ w
theorem Jg{d:Option Tmp}{ty:TypeId}{pos:String}{af:Array Edge}{gd:Option (Nat × Bool)}(σ:Operand→Value)(w:World):(execOp σ ⟨d, .alloc 114,ty,pos,af,gd⟩).run Tryz.prog w = .ok (.value (PQ w.heap.size 0)) (w.alloc (.cells (racC (⟨[],[],0⟩:AM)).toArray 114)):=by kernel_rfl
theorem Ot:∃fs,Tryz.prog.underlying 114=some (.struct fs):=Es (by kernel_rfl)
theorem MS:(Tryz.prog.info? 114).map (·.size)=some 3:=by kernel_rfl
theorem DX:GP Tryz.prog 114 racC:=⟨⟨_,(Ot).choose_spec⟩,fun x=>AN (Fh x) MS⟩
theorem Qp(z:Int)(w:World):(Instr.buildSlice 27 1 #[(0, .int .i64 z)]).run Tryz.prog w = .ok (.slice (some ⟨w.heap.size,0,none⟩) 1 1) (w.alloc (.cells #[.int .i64 z] 3)):=by kernel_rfl
theorem KH:Plain Tryz.prog 63:=fun _ _=>by kernel_rfl
theorem Qq(c0 c1 c2:Value)(w:World):(Instr.buildSlice 29 1 #[(0, .agg #[c0,c1,c2])]).run Tryz.prog w = .ok (.slice (some ⟨w.heap.size,0,none⟩) 1 1) (w.alloc (.cells #[c0,c1,c2] 114)):=by kernel_rfl
theorem KI:∀(cs:Array Value),cs.size=3→∀w:World,(Instr.buildSlice 29 1 #[(0, .agg cs)]).run Tryz.prog w = .ok (.slice (some ⟨w.heap.size,0,none⟩) 1 1) (w.alloc (.cells cs 114))
 | ⟨[c0,c1,c2]⟩,_,w=>Qq c0 c1 c2 w
theorem Ho(z0:ByteArray)(z1:ByteArray)(z2:Int)(w:World):(Instr.build 114 #[(0, .string z0),(1, .string z1),(2, .int .i64 z2)]).run Tryz.prog w = .ok (.agg #[.string z0, .string z1, .int .i64 z2]) w:=by kernel_rfl
theorem Ib(z0:List UInt8)(z1:List UInt8)(z2:Nat)(w:World):(Instr.build 114 #[(0,St z0),(1,St z1),(2,NI z2)]).run Tryz.prog w = .ok (.agg (St (z0) :: (St (z1) :: (NI (z2) :: ([])))).toArray) w:=by
 exact Ho _ _ _ w
theorem Qr:(Tryz.prog.info? 9).map (·.size)=some 1:=by kernel_rfl
set_option maxHeartbeats 1600000
theorem Lo{P:Nat→Prop}(w:World)(D:An)(V:Cn)(hR:RdAt P w D V)(hP:∀b,w.heap.size≤b→P b)(hok:DOk D)(hL:Co D)(hfn:D.files.length<1099511627776)(s:List UInt8)(vb:Value)(b:List UInt8)(hb:RB w vb b)(hbl:b.length<1099511627776)(b4:D.now.length+1<1099511627776)(ha1:D.acts.length+1<1099511627776)(hf1:D.files.length+1<1099511627776):
  Calls Tryz.prog 26 #[.agg (rdkC (Ac D,V)).toArray,St s,vb] w fun e w' =>∃V',e = .returned (.tuple #[.agg (rdkC (Ac (Af D s b).1,V')).toArray,NI (Af D s b).2])∧RdAt P w' (Af D s b).1 V' ∧Ext w w' :=by
 obtain⟨vs,hvs,hfiles0⟩:=hR.files
 have hfiles:=hfiles0.1
 have hsynced:=hR.synced.1
 have hnow:=hR.now.1
 have hkept:=hR.kept.1
 have hacts:=hR.acts.1
 have hqt:=hL.quota
 have hut:=hL.used
 have hrt:=hL.refused
 refine gG (args:= [.agg (rdkC (Ac D,V)).toArray,St (s),vb]) Tryz.func26 rfl 89 rfl rfl ?_
 have hE:=Ext.refl w
 refine gS (Yk.box (cs:=(rdkC (Ac D,V):List Value).toArray) (vr (.agg (rdkC (Ac D,V)).toArray) rfl) fun n2 w3 ga cl d8 gb=> ?_)
 have f:=cl;clear cl
 have gc:n2<w3.heap.size:=by omega
 refine gS (Yk.alloc (cs:=(rdkC ((⟨false,0,[],[],[],[],[],0,0,false⟩,⟨.slice none 0 0, .slice none 0 0, .slice none 0 0, .slice none 0 0, .slice none 0 0⟩):Au)).toArray) Ku fun t d9 ea cm cn gd=> ?_)
 have hE:=hE.trans d8
 have br:=hE.size
 have ge:=AE (bl f) ea
 have g:=cm;clear cm
 have gg:t<d9.heap.size:=by omega
 have hE:=hE.trans cn
 have f:=eb cn f
 refine gS (Yk.loadSt AL rfl f (gS (Yk.callA3 Kv rfl rfl rfl ((E1 _ D V (hR.keep hE) s s).mono ?_))))
 rintro e b5 ⟨rfl,bn⟩
 refine⟨_,rfl,?_⟩
 refine gS (Yk.eqI (a:=((A6 D s s):Nat)) (b:=(0:Nat)) rfl rfl (AZ _ _ _ _) ?_)
 refine cD rfl (fun bf=> ?_) fun bf=> ?_
 ·have hE:=hE.trans bn
  have f:=eb bn f
  have g:=eb bn g
  refine gS (Yk.loadSt AL rfl f (gS (Yk.storeSt AL (vr (PQ t 0) rfl) (vr (.agg (rdkC (Ac D,V)).toArray) rfl) g (AA (x:=(Ac D,V)) (RG.one (hfiles.keep hE)).2 (RG.one (hsynced.keep hE)).2 (RG.one (hnow.keep hE)).2 (RG.one (hkept.keep hE)).2 (RG.one (hacts.keep hE)).2) fun ec co cp gh=> ?_)))
  have hE:=Aa hE cp (Nat.le_trans br (by omega))
  have f:=kb cp f (by omega)
  clear g
  have g:ec.heap[t]? =some (.cells (rdkC (Ac D,V)).toArray 31 (0,0)):=co;clear co
  have gi:=bl g
  refine B2 rfl (ResF.row rfl g (FH).choose_spec rfl (AN (Ay _) E0)) (vr (NI (A6 D s s)) rfl) ?_
  rw[MO bf]
  exact⟨V,rfl,(hR.keep hE),hE⟩
 have f:=eb bn f
 refine gS (Yk.loadSt AL rfl f ?_)
 have hE:=hE.trans bn
 have hsz_:w.heap.size≤b5.heap.size:=(hE).size
 have hl_n2:n2<b5.heap.size:=(bl f)
 have g:=eb bn g
 have hl_n10:t<b5.heap.size:=(bl g)
 refine gS (Yk.callA1 Hm rfl ((FJ _ D V (hR.keep hE) hL hfn).mono ?_))
 rintro e gj ⟨V1,rfl,hO34,b6⟩
 refine⟨_,rfl,?_⟩
 obtain⟨us,hFs,h1files⟩:=hO34.files
 have h1synced:=hO34.synced
 have h1now:=hO34.now
 have h1kept:=hO34.kept
 have h1acts:=hO34.acts
 have bo:OB V1.files n2:=Ao h1files.2 hl_n2
 have bp:OB V1.synced n2:=Ao h1synced.2 hl_n2
 have bg:OB V1.now n2:=Ao h1now.2 hl_n2
 have bh:OB V1.kept n2:=Ao h1kept.2 hl_n2
 have a9:OB V1.acts n2:=Ao h1acts.2 hl_n2
 have bs:OB V1.files t:=Ao h1files.2 hl_n10
 have bt:OB V1.synced t:=Ao h1synced.2 hl_n10
 have bw:OB V1.now t:=Ao h1now.2 hl_n10
 have bx:OB V1.kept t:=Ao h1kept.2 hl_n10
 have bu:OB V1.acts t:=Ao h1acts.2 hl_n10
 have hFs:=RowsO.low hFs hsz_
 have h1files:=OG.low h1files hsz_
 have h1synced:=OG.low h1synced hsz_
 have h1now:=OG.low h1now hsz_
 have h1kept:=OG.low h1kept hsz_
 have h1acts:=OG.low h1acts hsz_
 have b7:Ak V1.files V1.synced:=AW h1files.2 h1synced.2 (by decide)
 have b8:Ak V1.files V1.now:=AW h1files.2 h1now.2 (by decide)
 have b9:Ak V1.files V1.kept:=AW h1files.2 h1kept.2 (by decide)
 have ca:Ak V1.files V1.acts:=AW h1files.2 h1acts.2 (by decide)
 have ed:Ak V1.synced V1.now:=AW h1synced.2 h1now.2 (by decide)
 have ee:Ak V1.synced V1.kept:=AW h1synced.2 h1kept.2 (by decide)
 have cq:Ak V1.synced V1.acts:=AW h1synced.2 h1acts.2 (by decide)
 have ef:Ak V1.acts V1.now:=AW h1acts.2 h1now.2 (by decide)
 have eg:Ak V1.acts V1.kept:=AW h1acts.2 h1kept.2 (by decide)
 have f:=eb b6 f
 refine gS (Yk.storeSt AL (vr (PQ n2 0) rfl) (vr (.agg (rdkC (Ac D,V1)).toArray) rfl) f (AA (x:=(Ac D,V1)) (RG.one (RG.ofOwn h1files)).2 (RG.one (RG.ofOwn h1synced)).2 (RG.one (RG.ofOwn h1now)).2 (RG.one (RG.ofOwn h1kept)).2 (RG.one (RG.ofOwn h1acts)).2) fun cr ct ba gk=> ?_)
 have hE:=hE.trans b6
 have hE:=Aa hE ba (Nat.le_trans (Nat.le_refl _) (by omega))
 have g:=eb b6 g
 have g:=kb ba g (by omega)
 have h1files:=OG.kept h1files ba bo
 have h1synced:=OG.kept h1synced ba bp
 have h1now:=OG.kept h1now ba bg
 have h1kept:=OG.kept h1kept ba bh
 have h1acts:=OG.kept h1acts ba a9
 have hFs:RowsO w.heap.size cr us (D.files.map Prod.fst):=RowsO.set hFs ba f (by decide)
 clear f
 have f:cr.heap[n2]? =some (.cells (rdkC (Ac D,V1)).toArray 31 (0,0)):=ct;clear ct
 have gl:=bl f
 have hO0:=(⟨⟨us,hFs,h1files⟩,h1synced,h1now,h1kept,h1acts⟩:RdO w.heap.size _ D V1)
 refine BV [0,1,2,3,4,5,6,7] [5] [1,2] [3] fun cb bq=> ?_
 have hFs:RowsO w.heap.size cb us (D.files.map Prod.fst):=(hFs.keep bq)
 have hO0:RdO w.heap.size cb D V1:=(hO0.keep bq)
 have bz:=Ext.refl cb
 have hE:=hE.trans bq
 have f:=eb bq f
 refine BM bz ?_
 refine yp (Yk.lenRB S2 (RB.of (hb.keep hE) rfl) zz) (yp (Yk.fieldAt MR rfl zz) (yf (fun _ ⟨hZ,_⟩=>Yk.cell1 Pb rfl rfl (cellAt (eb hZ f) (Oa (Ac D,V1))) zz) (ys (Yk.loadSt AL rfl f zz) (yE (Yk.callA1 Qo rfl ((Qi _ D V1 (RdO.at_ hO0 (P:=fun _=>True) (fun _ _=>trivial)) hok hL).mono ?_))))))
 rintro e cu ⟨rfl,a0⟩
 refine⟨_,rfl,?_⟩
 have hFs:RowsO w.heap.size cu us (D.files.map Prod.fst):=(hFs.keep a0)
 have hO0:RdO w.heap.size cu D V1:=(hO0.keep a0)
 have bz:=bz.trans a0
 refine⟨bz,?_⟩
 refine ys (Yk.bin (xv:= .int .i64 (((D.quota:Nat):Int))) (yv:= .int .i64 ((((usedD D):Nat):Int))) rfl rfl rfl (J6 _ (((D.quota:Nat):Int)) ((((usedD D):Nat):Int)) (by omega)) zz) (ys (Yk.eqI rfl rfl (GE _ .i64 ((b.length:Nat):Int) (((((D.quota:Nat):Int))-((((usedD D):Nat):Int))):Int)) zz) ?_)
 refine cD rfl (fun cc=> ?_) fun cc=> ?_
 ·have hq:D.quota<usedD D+b.length:=by have h:=cc;omega
  have f:=eb a0 f
  refine gS (Yk.fieldAt Ia rfl (gS (Yk.cell1 Pb rfl rfl (cellAt f (Oc (Ac D,V1))) (gS (Yk.bin (xv:=NI D.refused) (yv:=NI 1) rfl rfl rfl (Ap _ _ _ (by omega)) (gS (Yk.fieldAt Ia rfl (gS (Yk.storeC (i:=7) (v:=NI ((D.refused)+(1))) rfl rfl f (by rw[Ay];decide) Ph rfl rfl fun cv cw bb gm=> ?_)))))))))
  have hE:=hE.trans a0
  have hE:=Aa hE bb (Nat.le_trans (Nat.le_refl _) (by omega))
  have hZ1:=bq.trans a0
  have g:=eb hZ1 g
  have g:=kb bb g (by omega)
  have h1files:=h1files.keep hZ1
  have h1files:=OG.kept h1files bb bo
  have h1synced:=h1synced.keep hZ1
  have h1synced:=OG.kept h1synced bb bp
  have h1now:=h1now.keep hZ1
  have h1now:=OG.kept h1now bb bg
  have h1kept:=h1kept.keep hZ1
  have h1kept:=OG.kept h1kept bb bh
  have h1acts:=h1acts.keep hZ1
  have h1acts:=OG.kept h1acts bb a9
  have hFs:RowsO w.heap.size cv us (D.files.map Prod.fst):=RowsO.set hFs bb f (by decide)
  clear hO0
  clear f
  have f:cv.heap[n2]? =some (.cells (rdkC ((⟨true,((D.quota:Nat):Int),(D.files.map Prod.fst),(D.files.map fun x=>((x.2:Nat):Int)),D.now,D.kept,D.acts,((D.refused)+(1)),D.arm,D.down⟩,⟨V1.files,V1.synced,V1.now,V1.kept,V1.acts⟩):Au)).toArray 31 (0,0)):=AF cw (SA (Ac D,V1) ((D.refused)+(1)));clear cw
  have gn:=bl f
  refine gS (Yk.loadSt AL rfl f (gS (Yk.storeSt AL (vr (PQ t 0) rfl) (vr (.agg (rdkC ((⟨true,((D.quota:Nat):Int),(D.files.map Prod.fst),(D.files.map fun x=>((x.2:Nat):Int)),D.now,D.kept,D.acts,((D.refused)+(1)),D.arm,D.down⟩,⟨V1.files,V1.synced,V1.now,V1.kept,V1.acts⟩):Au)).toArray) rfl) g (AA (x:=((⟨true,((D.quota:Nat):Int),(D.files.map Prod.fst),(D.files.map fun x=>((x.2:Nat):Int)),D.now,D.kept,D.acts,((D.refused)+(1)),D.arm,D.down⟩,⟨V1.files,V1.synced,V1.now,V1.kept,V1.acts⟩):Au)) (RG.one (RG.ofOwn h1files)).2 (RG.one (RG.ofOwn h1synced)).2 (RG.one (RG.ofOwn h1now)).2 (RG.one (RG.ofOwn h1kept)).2 (RG.one (RG.ofOwn h1acts)).2) fun cd cx bc go=> ?_)))
  have hE:=Aa hE bc (Nat.le_trans br (by omega))
  have h1files:=OG.kept h1files bc bs
  have h1synced:=OG.kept h1synced bc bt
  have h1now:=OG.kept h1now bc bw
  have h1kept:=OG.kept h1kept bc bx
  have h1acts:=OG.kept h1acts bc bu
  have hFs:RowsO w.heap.size cd us (D.files.map Prod.fst):=RowsO.set hFs bc g (by decide)
  have f:=kb bc f (by omega)
  clear g
  have g:cd.heap[t]? =some (.cells (rdkC ((⟨true,((D.quota:Nat):Int),(D.files.map Prod.fst),(D.files.map fun x=>((x.2:Nat):Int)),D.now,D.kept,D.acts,((D.refused)+(1)),D.arm,D.down⟩,⟨V1.files,V1.synced,V1.now,V1.kept,V1.acts⟩):Au)).toArray 31 (0,0)):=cx;clear cx
  have gp:=bl g
  refine B2 rfl (ResF.row rfl g (FH).choose_spec rfl (AN (Ay _) E0)) (vr (NI 8) rfl) ?_
  have hOe:RdO w.heap.size cd ({ D with refused:=D.refused+1 }) V1:=⟨⟨us,hFs,h1files⟩,h1synced,h1now,h1kept,h1acts⟩
  rw[KC bf hq]
  exact⟨V1,rfl,hOe.at_ hP,hE⟩
 have hq:¬D.quota<usedD D+b.length:=by have h:=cc;omega
 have f:=eb a0 f
 refine gS (Yk.loadSt AL rfl f ?_)
 have hZ2:=bq.trans a0
 have h1files:=h1files.keep hZ2
 have h1synced:=h1synced.keep hZ2
 have h1now:=h1now.keep hZ2
 have h1kept:=h1kept.keep hZ2
 have h1acts:=h1acts.keep hZ2
 have hO1:=(⟨⟨us,hFs,h1files⟩,h1synced,h1now,h1kept,h1acts⟩:RdO w.heap.size _ D V1)
 obtain⟨D1,dn,hD1⟩:∃x y,Bh D=(x,y):=⟨_,_,rfl⟩
 have hD1f:(Bh D).1=D1:=congrArg Prod.fst hD1
 have hO2:=hO1.armed
 rw[hD1f]at hO2
 have hok1:=KA hok
 rw[hD1f]at hok1
 have hL1:=KB hL
 rw[hD1f]at hL1
 have hfe:=Dd D
 rw[hD1f]at hfe
 obtain⟨hfe1,hfe2,hfe3,hfe4,hfe5,hfe6⟩:=hfe
 refine gS (Yk.callA1 Hn rfl ((Hl _ D V1 (RdO.at_ hO1 (P:=fun _=>True) (fun _ _=>trivial)) hL hD1).mono ?_))
 rintro e ce ⟨rfl,ar⟩
 refine⟨_,rfl,?_⟩
 have hFs:RowsO w.heap.size ce us (D.files.map Prod.fst):=(hFs.keep ar)
 have hO0:RdO w.heap.size ce D V1:=(hO0.keep ar)
 have h1files:=h1files.keep ar
 have h1synced:=h1synced.keep ar
 have h1now:=h1now.keep ar
 have h1kept:=h1kept.keep ar
 have h1acts:=h1acts.keep ar
 have hO3:RdO w.heap.size ce D1 V1:=RdO.same (D:=D) ⟨⟨us,hFs,h1files⟩,h1synced,h1now,h1kept,h1acts⟩ hfe1 hfe2 hfe3 hfe4
 clear hFs h1files h1synced h1now h1kept h1acts
 have hus:=hO3
 obtain⟨us,hFs,h1files⟩:=hO3.files
 have h1synced:=hO3.synced
 have h1now:=hO3.now
 have h1kept:=hO3.kept
 have h1acts:=hO3.acts
 have f:=eb ar f
 refine gS (Yk.extract (vs:= [.agg (rdkC (Ac D1,V1)).toArray, .bool (dn)]) rfl rfl (gS (Yk.extract (vs:= [.agg (rdkC (Ac D1,V1)).toArray, .bool (dn)]) rfl rfl (gS (Yk.storeSt AL (vr (PQ n2 0) rfl) (vr (.agg (rdkC (Ac D1,V1)).toArray) rfl) f (AA (x:=(Ac D1,V1)) (RG.one (RG.ofOwn h1files)).2 (RG.one (RG.ofOwn h1synced)).2 (RG.one (RG.ofOwn h1now)).2 (RG.one (RG.ofOwn h1kept)).2 (RG.one (RG.ofOwn h1acts)).2) fun cy cz bd gq=> ?_)))))
 have hE:=hE.trans (a0.trans ar)
 have hE:=Aa hE bd (Nat.le_trans (Nat.le_refl _) (by omega))
 have g:=eb (hZ2.trans ar) g
 have g:=kb bd g (by omega)
 have h1files:=OG.kept h1files bd bo
 have h1synced:=OG.kept h1synced bd bp
 have h1now:=OG.kept h1now bd bg
 have h1kept:=OG.kept h1kept bd bh
 have h1acts:=OG.kept h1acts bd a9
 have hFs:RowsO w.heap.size cy us (D1.files.map Prod.fst):=RowsO.set hFs bd f (by decide)
 clear hO0
 clear f
 have f:cy.heap[n2]? =some (.cells (rdkC (Ac D1,V1)).toArray 31 (0,0)):=cz;clear cz
 have gr:=bl f
 refine cB (dn) rfl (fun cf=> ?_) fun cf=> ?_
 ·rw[show dn=true from cf]at hD1
  refine gS (Yk.loadSt AL rfl f (gS (Yk.storeSt AL (vr (PQ t 0) rfl) (vr (.agg (rdkC (Ac D1,V1)).toArray) rfl) g (AA (x:=(Ac D1,V1)) (RG.one (RG.ofOwn h1files)).2 (RG.one (RG.ofOwn h1synced)).2 (RG.one (RG.ofOwn h1now)).2 (RG.one (RG.ofOwn h1kept)).2 (RG.one (RG.ofOwn h1acts)).2) fun cg c0 be gs=> ?_)))
  have hE:=Aa hE be (Nat.le_trans br (by omega))
  have h1files:=OG.kept h1files be bs
  have h1synced:=OG.kept h1synced be bt
  have h1now:=OG.kept h1now be bw
  have h1kept:=OG.kept h1kept be bx
  have h1acts:=OG.kept h1acts be bu
  have hFs:RowsO w.heap.size cg us (D1.files.map Prod.fst):=RowsO.set hFs be g (by decide)
  have f:=kb be f (by omega)
  clear g
  have g:cg.heap[t]? =some (.cells (rdkC (Ac D1,V1)).toArray 31 (0,0)):=c0;clear c0
  have gt:=bl g
  refine B2 rfl (ResF.row rfl g (FH).choose_spec rfl (AN (Ay _) E0)) (vr (NI 9) rfl) ?_
  have hOe:RdO w.heap.size cg (D1) V1:=⟨⟨us,hFs,h1files⟩,h1synced,h1now,h1kept,h1acts⟩
  rw[KD bf hq hD1]
  exact⟨V1,rfl,hOe.at_ hP,hE⟩
 rw[show dn=false from cf]at hD1
 have hul:us.length=D1.files.length:=by rw[hFs.len,List.length_map]
 have hf1:D1.files.length+1<1099511627776:=by rw[hfe1];exact hf1
 have b4:D1.now.length+1<1099511627776:=by rw[hfe2];exact b4
 have ha1:D1.acts.length+1<1099511627776:=by rw[hfe4];exact ha1
 have hrs:Bu s=true:=by have h0:A6 D s s=0:=Classical.not_not.1 bf;exact Gz h0
 cases hk:AD D1.now s
 ·have hlz:=Ec hk
  refine gS (Yk.fieldAt Ct rfl (gS (Yk.cell1 Bn rfl rfl (cellAt f (BU (Ac D1,V1))) (gS (Yk.callA2 Kw rfl rfl ((CW _ V1.now D1.now s (-1) (RG.ofOwn h1now) (hL1.now) (hlz)).mono ?_))))))
  rintro e eh ⟨rfl,a1⟩
  refine⟨_,rfl,?_⟩
  have hFs:RowsO w.heap.size eh us (D1.files.map Prod.fst):=(hFs.keep a1)
  have h1files:=h1files.keep a1
  have f:=eb a1 f
  refine gS (Yk.eqI rfl rfl (D3 _ .i64 (-1:Int) ((0:Nat):Int)) (kT (by decide) (cT rfl (gS (Yk.fieldAt H5 rfl (gS (Yk.cell1 IY rfl rfl (cellAt f (C2 (Ac D1,V1))) (gS (Yk.lenRGe IY (RG.of (RG.ofOwn h1files) rfl) hul (gS (Yk.build2 (vr (St (s)) rfl) (vr (NI D1.files.length) rfl) (fun w=>Jy s D1.files.length w) (gS (Yk.alloc (cs:=(racC (⟨[],[],0⟩:AM)).toArray) Jg fun am c1 c2 c3 a2 gu=> ?_)))))))))))))
  have hE:=hE.trans a1
  have ei:=hE.size
  have g:=eb a1 g
  have gv:=AE (bl g) c2
  have gw:=AE (bl f) c2
  have ch:OB V1.files am:=By h1files.2 (by omega)
  have h1synced:=h1synced.keep a1
  have c4:OB V1.synced am:=By h1synced.2 (by omega)
  have h1now:=h1now.keep a1
  have ej:OB V1.now am:=By h1now.2 (by omega)
  have h1kept:=h1kept.keep a1
  have el:OB V1.kept am:=By h1kept.2 (by omega)
  have h1acts:=h1acts.keep a1
  have c5:OB V1.acts am:=By h1acts.2 (by omega)
  have hFs:RowsO w.heap.size c1 us (D1.files.map Prod.fst):=(hFs.keep a2)
  have m:=c3;clear c3
  have gx:am<c1.heap.size:=by omega
  refine gS (Yk.storeSt DX (vr (PQ am 0) rfl) (vr (.agg (racC (⟨[],s,D1.files.length⟩:AM)).toArray) rfl) m (Fi (x:=(⟨[],s,D1.files.length⟩:AM))) fun c6 c7 a3 gy=> ?_)
  have hE:=hE.trans a2
  have hE:=Aa hE a3 (Nat.le_trans ei (by omega))
  have g:=eb a2 g
  have g:=kb a3 g (by omega)
  have h1files:=h1files.keep a2
  have h1files:=OG.kept h1files a3 ch
  have h1synced:=h1synced.keep a2
  have h1synced:=OG.kept h1synced a3 c4
  have h1now:=h1now.keep a2
  have h1now:=OG.kept h1now a3 ej
  have h1kept:=h1kept.keep a2
  have h1kept:=OG.kept h1kept a3 el
  have h1acts:=h1acts.keep a2
  have h1acts:=OG.kept h1acts a3 c5
  have hFs:RowsO w.heap.size c6 us (D1.files.map Prod.fst):=RowsO.set hFs a3 m (by decide)
  have f:=eb a2 f
  have f:=kb a3 f (by omega)
  clear m
  have m:c6.heap[am]? =some (.cells (racC (⟨[],s,D1.files.length⟩:AM)).toArray 114 (0,0)):=c7;clear c7
  have gz:=bl m
  have hve:∃ao n c,Value.slice none 0 0 = .slice ao n c:=⟨_,_,_,rfl⟩
  have hve1:(Value.slice none 0 0).oneCell' =true:=rfl
  refine gS (Yk.fieldAt H5 rfl (gS (Yk.cell1 IY rfl rfl (cellAt f (C2 (Ac D1,V1))) (gS (Yk.lit1S (a:=((Value.slice none 0 0))) (enc:=DF) (vr (Value.slice none 0 0) rfl) rfl (fun w=>Ql _ _ _ w) fun em c8 c9 au=> ?_)))))
  have hFs:RowsO w.heap.size c8 us (D1.files.map Prod.fst):=(hFs.keep au)
  have hE:=hE.trans au
  have h1files:=h1files.keep au
  refine gS (Yk.appendRG _ _ w.heap.size _ 24 IY rd3_ig35.choose_spec.1 rd3_ig35.choose_spec.2 IY (us) ([((Value.slice none 0 0))]) (OG.of h1files (vr V1.files rfl)) (RG.of c9 (vr em rfl)) (fun y hy u hu=>by rw[List.mem_singleton.1 hu,List.mem_singleton.1 hy];exact hve1) (by first | omega | (simp only[List.length_append,List.length_singleton,List.length_map];omega)) (by first | omega | (simp only[List.length_append,List.length_singleton,List.length_map];omega)) hE.size fun j da o ad=> ?_)
  have ad:Grew c8 da V1.files j:=ad
  have f:=eb au f
  have bv:OB j n2:=Ax ad bo (bl f)
  have g:=eb au g
  have en:OB j t:=Ax ad bs (bl g)
  have h1synced:=h1synced.keep au
  have eo:Ak j V1.synced:=AH ad b7 h1synced.2
  have db:Ak V1.synced j:=fun k h1 h2=>eo k h2 h1
  have h1now:=h1now.keep au
  have ep:Ak j V1.now:=AH ad b8 h1now.2
  have h1kept:=h1kept.keep au
  have er:Ak j V1.kept:=AH ad b9 h1kept.2
  have h1acts:=h1acts.keep au
  have es:Ak j V1.acts:=AH ad ca h1acts.2
  have dc:Ak V1.acts j:=fun k h1 h2=>es k h2 h1
  have m:=eb au m
  have et:OB j am:=Ax ad ch (bl m)
  have hE:=Ag hE ad h1files.2 (Nat.le_refl _)
  have g:=Am g ad bs
  have h1synced:=Av h1synced ad b7
  have h1now:=Av h1now ad b8
  have h1kept:=Av h1kept ad b9
  have h1acts:=Av h1acts ad ca
  have hFs:RowsO w.heap.size da us (D1.files.map Prod.fst):=RowsO.grew hFs ad h1files.2 (by decide)
  have f:=Am f ad bo
  have m:=Am m ad ch
  clear c9
  clear h1files
  refine gS (Yk.fieldAt H5 rfl (gS (Yk.storeC (i:=2) (v:=j) rfl rfl f (by rw[Ay];decide) Ok (RG.one (RG.ofOwn o)).1 (RG.one (RG.ofOwn o)).2 fun dd de a4 g0=> ?_)))
  have hE:=Aa hE a4 (Nat.le_trans (Nat.le_refl _) (by omega))
  have g:=kb a4 g (by omega)
  have h1synced:=OG.kept h1synced a4 bp
  have h1now:=OG.kept h1now a4 bg
  have h1kept:=OG.kept h1kept a4 bh
  have h1acts:=OG.kept h1acts a4 a9
  have hFs:RowsO w.heap.size dd us (D1.files.map Prod.fst):=RowsO.set hFs a4 f (by decide)
  have m:=kb a4 m (by omega)
  have o:=OG.kept o a4 bv
  clear f
  have f:dd.heap[n2]? =some (.cells (rdkC ((⟨true,((D1.quota:Nat):Int),(D1.files.map Prod.fst++ [[]]),(D1.files.map fun x=>((x.2:Nat):Int)),D1.now,D1.kept,D1.acts,D1.refused,D1.arm,D1.down⟩,⟨j,V1.synced,V1.now,V1.kept,V1.acts⟩):Au)).toArray 31 (0,0)):=AF de (Km (Ac D1,V1) j ((D1.files.map Prod.fst++ [[]])));clear de
  have g1:=bl f
  have hFs:=RowsO.snoc hFs (v:=Value.slice none 0 0) (l:= []) (World.ownsRow_nil _ _ _ 1) (fun i hi x hx e=>by cases e)
  refine gS (Yk.fieldAt H6 rfl (gS (Yk.cell1 Du rfl rfl (cellAt f (Gw ((⟨true,((D1.quota:Nat):Int),(D1.files.map Prod.fst++ [[]]),(D1.files.map fun x=>((x.2:Nat):Int)),D1.now,D1.kept,D1.acts,D1.refused,D1.arm,D1.down⟩,⟨j,V1.synced,V1.now,V1.kept,V1.acts⟩):Au))) (gS (Yk.lit1S (a:=0) (enc:=DG) (vr (NI 0) rfl) rfl (fun w=>Qp _ w) fun eu df dh av=> ?_)))))
  have hFs:RowsO w.heap.size df (us++ [Value.slice none 0 0]) ((D1.files.map Prod.fst)++ [[]]):=(hFs.keep av)
  have hE:=hE.trans av
  have h1synced:=h1synced.keep av
  refine gS (Yk.appendRG _ _ w.heap.size _ 8 Du rd3_ig3.choose_spec.1 rd3_ig3.choose_spec.2 Du ((D1.files.map fun x=>((x.2:Nat):Int))) ([0]) (OG.of h1synced (vr V1.synced rfl)) (RG.of dh (vr eu rfl)) (fun y hy u hu=>by rw[List.mem_singleton.1 hu];rfl) (by first | omega | (simp only[List.length_append,List.length_singleton,List.length_map];omega)) (by first | omega | (simp only[List.length_append,List.length_singleton,List.length_map];omega)) hE.size fun z di r ai=> ?_)
  have ai:Grew df di V1.synced z:=ai
  have f:=eb av f
  have ci:OB z n2:=Ax ai bp (bl f)
  have g:=eb av g
  have ew:OB z t:=Ax ai bt (bl g)
  have h1acts:=h1acts.keep av
  have ex:Ak z V1.acts:=AH ai cq h1acts.2
  have ey:Ak V1.acts z:=fun k h1 h2=>ex k h2 h1
  have o:=o.keep av
  have ez:Ak z j:=AH ai db o.2
  have e0:Ak j z:=fun k h1 h2=>ez k h2 h1
  have hE:=Ag hE ai h1synced.2 (Nat.le_refl _)
  have g:=Am g ai bt
  have h1now:=h1now.keep av
  have h1now:=Av h1now ai ed
  have h1kept:=h1kept.keep av
  have h1kept:=Av h1kept ai ee
  have h1acts:=Av h1acts ai cq
  have hFs:RowsO w.heap.size di (us++ [Value.slice none 0 0]) ((D1.files.map Prod.fst)++ [[]]):=RowsO.grew hFs ai h1synced.2 (by decide)
  have m:=eb av m
  have m:=Am m ai c4
  have o:=Av o ai db
  have f:=Am f ai bp
  clear dh
  clear h1synced
  refine gS (Yk.fieldAt H6 rfl (gS (Yk.storeC (i:=3) (v:=z) rfl rfl f (by rw[Ay];decide) Nt (RG.one (RG.ofOwn r)).1 (RG.one (RG.ofOwn r)).2 fun dj dk a5 g2=> ?_)))
  have hE:=Aa hE a5 (Nat.le_trans (Nat.le_refl _) (by omega))
  have g:=kb a5 g (by omega)
  have h1now:=OG.kept h1now a5 bg
  have h1kept:=OG.kept h1kept a5 bh
  have h1acts:=OG.kept h1acts a5 a9
  have hFs:RowsO w.heap.size dj (us++ [Value.slice none 0 0]) ((D1.files.map Prod.fst)++ [[]]):=RowsO.set hFs a5 f (by decide)
  have m:=kb a5 m (by omega)
  have o:=OG.kept o a5 bv
  have r:=OG.kept r a5 ci
  clear f
  have f:dj.heap[n2]? =some (.cells (rdkC ((⟨true,((D1.quota:Nat):Int),(D1.files.map Prod.fst++ [[]]),((D1.files.map fun x=>((x.2:Nat):Int)))++ [0],D1.now,D1.kept,D1.acts,D1.refused,D1.arm,D1.down⟩,⟨j,z,V1.now,V1.kept,V1.acts⟩):Au)).toArray 31 (0,0)):=AF dk (Kn ((⟨true,((D1.quota:Nat):Int),(D1.files.map Prod.fst++ [[]]),(D1.files.map fun x=>((x.2:Nat):Int)),D1.now,D1.kept,D1.acts,D1.refused,D1.arm,D1.down⟩,⟨j,V1.synced,V1.now,V1.kept,V1.acts⟩):Au) z (((D1.files.map fun x=>((x.2:Nat):Int)))++ [0]));clear dk
  have g3:=bl f
  refine gS (Yk.fieldAt Ct rfl (gS (Yk.cell1 Bn rfl rfl (cellAt f (BU ((⟨true,((D1.quota:Nat):Int),(D1.files.map Prod.fst++ [[]]),((D1.files.map fun x=>((x.2:Nat):Int)))++ [0],D1.now,D1.kept,D1.acts,D1.refused,D1.arm,D1.down⟩,⟨j,z,V1.now,V1.kept,V1.acts⟩):Au))) (gS (Yk.loadSt DX rfl m ?_)))))
  have hnl2:(turnD D1.now ⟨[],s,D1.files.length⟩).length<1099511627776:=Nat.lt_of_le_of_lt (Fo _ _) b4
  have e1:=hE.size
  refine gS (Yk.callA2 KH rfl rfl ((FG _ V1.now (D1.now) (⟨[],s,D1.files.length⟩:AM) (RG.ofOwn h1now) hL1.now).mono ?_))
  rintro e e2 ⟨ab,rfl,p,aw⟩
  refine⟨_,rfl,?_⟩
  have e3:OB ab t:=Ao p.2 (bl g)
  have dl:OB ab n2:=Ao p.2 (bl f)
  have e4:Ak V1.acts ab:=Cr h1acts.2 p.2
  have e5:Ak j ab:=Cr o.2 p.2
  have hFs:RowsO w.heap.size e2 (us++ [Value.slice none 0 0]) ((D1.files.map Prod.fst)++ [[]]):=(hFs.keep aw)
  have f:=eb aw f
  refine gS (Yk.fieldAt Ct rfl (gS (Yk.storeC (i:=4) (v:=ab) rfl rfl f (by rw[Ay];decide) Je (RG.one (RG.ofOwn p)).1 (RG.one (RG.ofOwn p)).2 fun dm dp ax g4=> ?_)))
  have hE:=hE.trans aw
  have hE:=Aa hE ax (Nat.le_trans (Nat.le_refl _) (by omega))
  have g:=eb aw g
  have g:=kb ax g (by omega)
  have h1now:=h1now.keep aw
  have h1now:=OG.kept h1now ax bg
  have h1kept:=h1kept.keep aw
  have h1kept:=OG.kept h1kept ax bh
  have h1acts:=h1acts.keep aw
  have h1acts:=OG.kept h1acts ax a9
  have hFs:RowsO w.heap.size dm (us++ [Value.slice none 0 0]) ((D1.files.map Prod.fst)++ [[]]):=RowsO.set hFs ax f (by decide)
  have m:=eb aw m
  have m:=kb ax m (by omega)
  have o:=o.keep aw
  have o:=OG.kept o ax bv
  have r:=r.keep aw
  have r:=OG.kept r ax ci
  have p:=OG.kept p ax dl
  clear f
  have f:dm.heap[n2]? =some (.cells (rdkC ((⟨true,((D1.quota:Nat):Int),(D1.files.map Prod.fst++ [[]]),((D1.files.map fun x=>((x.2:Nat):Int)))++ [0],turnD (D1.now) (⟨[],s,D1.files.length⟩:AM),D1.kept,D1.acts,D1.refused,D1.arm,D1.down⟩,⟨j,z,ab,V1.kept,V1.acts⟩):Au)).toArray 31 (0,0)):=AF dp (HZ ((⟨true,((D1.quota:Nat):Int),(D1.files.map Prod.fst++ [[]]),((D1.files.map fun x=>((x.2:Nat):Int)))++ [0],D1.now,D1.kept,D1.acts,D1.refused,D1.arm,D1.down⟩,⟨j,z,V1.now,V1.kept,V1.acts⟩):Au) ab (turnD (D1.now) (⟨[],s,D1.files.length⟩:AM)));clear dp
  have g5:=bl f
  refine gS (Yk.fieldAt H9 rfl (gS (Yk.cell1 Hj rfl rfl (cellAt f (Gx ((⟨true,((D1.quota:Nat):Int),(D1.files.map Prod.fst++ [[]]),((D1.files.map fun x=>((x.2:Nat):Int)))++ [0],turnD (D1.now) (⟨[],s,D1.files.length⟩:AM),D1.kept,D1.acts,D1.refused,D1.arm,D1.down⟩,⟨j,z,ab,V1.kept,V1.acts⟩):Au))) (gS (Yk.loadSt DX rfl m (gS (Yk.lit1G (a:=(⟨[],s,D1.files.length⟩:AM)) (enc:=racC) (vr (.agg (racC (⟨[],s,D1.files.length⟩:AM)).toArray) rfl) (Fh _) KI fun e6 dq dr an=> ?_)))))))
  have hFs:RowsO w.heap.size dq (us++ [Value.slice none 0 0]) ((D1.files.map Prod.fst)++ [[]]):=(hFs.keep an)
  have hE:=hE.trans an
  have h1acts:=h1acts.keep an
  refine gS (Yk.appendRG _ _ w.heap.size _ 40 Hj rd3_ig114.choose_spec.1 rd3_ig114.choose_spec.2 Hj (D1.acts) ([(⟨[],s,D1.files.length⟩:AM)]) (OG.of h1acts (vr V1.acts rfl)) (RG.of dr (vr e6 rfl)) (fun _ _=>Fi) (by first | omega | (simp only[List.length_append,List.length_singleton,List.length_map];omega)) (by first | omega | (simp only[List.length_append,List.length_singleton,List.length_map];omega)) hE.size fun af ds ae aj=> ?_)
  have aj:Grew dq ds V1.acts af:=aj
  have f:=eb an f
  have e7:OB af n2:=Ax aj a9 (bl f)
  have g:=eb an g
  have e8:OB af t:=Ax aj bu (bl g)
  have o:=o.keep an
  have e9:Ak af j:=AH aj dc o.2
  have fa:Ak j af:=fun k h1 h2=>e9 k h2 h1
  have hE:=Ag hE aj h1acts.2 (Nat.le_refl _)
  have g:=Am g aj bu
  have h1now:=h1now.keep an
  have h1now:=Av h1now aj ef
  have h1kept:=h1kept.keep an
  have h1kept:=Av h1kept aj eg
  have hFs:RowsO w.heap.size ds (us++ [Value.slice none 0 0]) ((D1.files.map Prod.fst)++ [[]]):=RowsO.grew hFs aj h1acts.2 (by decide)
  have m:=eb an m
  have m:=Am m aj c5
  have o:=Av o aj dc
  have r:=r.keep an
  have r:=Av r aj ey
  have p:=p.keep an
  have p:=Av p aj e4
  have f:=Am f aj a9
  clear dr
  clear h1acts
  refine gS (Yk.fieldAt H9 rfl (gS (Yk.storeC (i:=6) (v:=af) rfl rfl f (by rw[Ay];decide) Oq (RG.one (RG.ofOwn ae)).1 (RG.one (RG.ofOwn ae)).2 fun dt du ay g6=> ?_)))
  have hE:=Aa hE ay (Nat.le_trans (Nat.le_refl _) (by omega))
  have g:=kb ay g (by omega)
  have h1now:=OG.kept h1now ay bg
  have h1kept:=OG.kept h1kept ay bh
  have hFs:RowsO w.heap.size dt (us++ [Value.slice none 0 0]) ((D1.files.map Prod.fst)++ [[]]):=RowsO.set hFs ay f (by decide)
  have m:=kb ay m (by omega)
  have o:=OG.kept o ay bv
  have r:=OG.kept r ay ci
  have p:=OG.kept p ay dl
  have ae:=OG.kept ae ay e7
  clear f
  have f:dt.heap[n2]? =some (.cells (rdkC ((⟨true,((D1.quota:Nat):Int),(D1.files.map Prod.fst++ [[]]),((D1.files.map fun x=>((x.2:Nat):Int)))++ [0],turnD (D1.now) (⟨[],s,D1.files.length⟩:AM),D1.kept,(D1.acts)++ [(⟨[],s,D1.files.length⟩:AM)],D1.refused,D1.arm,D1.down⟩,⟨j,z,ab,V1.kept,af⟩):Au)).toArray 31 (0,0)):=AF du (H0 ((⟨true,((D1.quota:Nat):Int),(D1.files.map Prod.fst++ [[]]),((D1.files.map fun x=>((x.2:Nat):Int)))++ [0],turnD (D1.now) (⟨[],s,D1.files.length⟩:AM),D1.kept,D1.acts,D1.refused,D1.arm,D1.down⟩,⟨j,z,ab,V1.kept,V1.acts⟩):Au) af ((D1.acts)++ [(⟨[],s,D1.files.length⟩:AM)]));clear du
  have g7:=bl f
  refine gS (Yk.fieldAt Ct rfl (gS (Yk.cell1 Bn rfl rfl (cellAt f (BU ((⟨true,((D1.quota:Nat):Int),(D1.files.map Prod.fst++ [[]]),((D1.files.map fun x=>((x.2:Nat):Int)))++ [0],turnD (D1.now) (⟨[],s,D1.files.length⟩:AM),D1.kept,(D1.acts)++ [(⟨[],s,D1.files.length⟩:AM)],D1.refused,D1.arm,D1.down⟩,⟨j,z,ab,V1.kept,af⟩):Au))) (gS (Yk.callA2 Kw rfl rfl ((CW _ ab (turnD (D1.now) (⟨[],s,D1.files.length⟩:AM)) s ((D1.files.length:Nat):Int) (RG.ofOwn p) (hnl2) (DD ((look_turn _ _ _).trans ((if_neg (show s.length≠0 by have:=(B0 hrs).1;omega)).trans (if_pos rfl))))).mono ?_))))))
  rintro e bi ⟨rfl,ap⟩
  refine⟨_,rfl,?_⟩
  have hFs:RowsO w.heap.size bi (us++ [Value.slice none 0 0]) ((D1.files.map Prod.fst)++ [[]]):=(hFs.keep ap)
  have hkl:D1.files.length<(D1.files.map Prod.fst++ [[]]).length:=by rw[List.length_append,List.length_map];simp
  have hrow:=hFs.own D1.files.length hkl
  rw[MQ (l:=D1.files.map Prod.fst) (n:=D1.files.length) (by rw[List.length_map])]at hrow
  have hFs0:=hFs
  have hlL:([]:List UInt8).length<1099511627776:=by simp
  have o:=o.keep ap
  obtain⟨gf,hgf⟩:=OG.block (i:=D1.files.length) o (by simp only[List.length_append,List.length_singleton];omega)
  have g:=eb ap g
  have dv:Value.ownBlock (((us++ [Value.slice none 0 0]).getD (D1.files.length) undef))≠some t:=Cf hrow g (by decide)
  have h1now:=h1now.keep ap
  have fb:Ak (((us++ [Value.slice none 0 0]).getD (D1.files.length) undef)) V1.now:=AW hrow h1now.2 (by decide)
  have h1kept:=h1kept.keep ap
  have fc:Ak (((us++ [Value.slice none 0 0]).getD (D1.files.length) undef)) V1.kept:=AW hrow h1kept.2 (by decide)
  have m:=eb ap m
  have fd:Value.ownBlock (((us++ [Value.slice none 0 0]).getD (D1.files.length) undef))≠some am:=Cf hrow m (by decide)
  have dw:Ak (((us++ [Value.slice none 0 0]).getD (D1.files.length) undef)) j:=AW hrow o.2 (by decide)
  have r:=r.keep ap
  have fe:Ak (((us++ [Value.slice none 0 0]).getD (D1.files.length) undef)) z:=AW hrow r.2 (by decide)
  have p:=p.keep ap
  have ff:Ak (((us++ [Value.slice none 0 0]).getD (D1.files.length) undef)) ab:=AW hrow p.2 (by decide)
  have ae:=ae.keep ap
  have fg:Ak (((us++ [Value.slice none 0 0]).getD (D1.files.length) undef)) af:=AW hrow ae.2 (by decide)
  have f:=eb ap f
  have fh:Value.ownBlock (((us++ [Value.slice none 0 0]).getD (D1.files.length) undef))≠some n2:=Cf hrow f (by decide)
  have hC:Chg (fun i=>(((us++ [Value.slice none 0 0]).getD (D1.files.length) undef)).ownBlock=some i∨(j).ownBlock=some i) bi bi:=Chg.refl _ _
  have htf:∀i,(j).ownBlock=some i→Cj bi i≠some (5+1):=fun i e=>by rw[Ck o.2 e];decide
  refine BV [0,1,2,3,4,5,6,7,8,9,10,11] [9,11] [0] [1] fun dx al=> ?_
  have hC:Chg (fun i=>(((us++ [Value.slice none 0 0]).getD (D1.files.length) undef)).ownBlock=some i∨(j).ownBlock=some i) bi dx:=(hC.keep al)
  have hE:=hE.trans (ap.trans al)
  have o:=o.keep al
  have f:=eb al f
  have hrow:=Stab.own _ _ _ _ _ _ _ _ hrow al
  refine HE f ?_
  refine yp (Yk.fieldAt H5 rfl zz) (yf (fun _ ⟨f,_⟩=>Yk.cell1 IY rfl rfl (cellAt f (C2 ((⟨true,((D1.quota:Nat):Int),(D1.files.map Prod.fst++ [[]]),((D1.files.map fun x=>((x.2:Nat):Int)))++ [0],turnD (D1.now) (⟨[],s,D1.files.length⟩:AM),D1.kept,(D1.acts)++ [(⟨[],s,D1.files.length⟩:AM)],D1.refused,D1.arm,D1.down⟩,⟨j,z,ab,V1.kept,af⟩):Au))) zz) (ys (Yk.fieldAt H5 rfl zz) (ys (Yk.cell1 IY rfl rfl (cellAt f (C2 ((⟨true,((D1.quota:Nat):Int),(D1.files.map Prod.fst++ [[]]),((D1.files.map fun x=>((x.2:Nat):Int)))++ [0],turnD (D1.now) (⟨[],s,D1.files.length⟩:AM),D1.kept,(D1.acts)++ [(⟨[],s,D1.files.length⟩:AM)],D1.refused,D1.arm,D1.down⟩,⟨j,z,ab,V1.kept,af⟩):Au))) zz) (ys (Yk.atOwnK (k:=1) (i:=D1.files.length) IY NG rfl o.2 hgf rfl (by first | omega | (simp only[List.length_append,List.length_singleton,List.length_map];omega)) zz) (ys (Yk.loadC S2 rfl (by rw[show _=PQ gf ((D1.files.length)*1)from rfl];exact OG.cell1 undef o hgf (by first | omega | (simp only[List.length_append,List.length_singleton,List.length_map];omega)) rfl) zz) (yI (Yk.appendRB _ _ w.heap.size (.int .u8 0) S2 SH rfl S2 (([]:List UInt8)) (b) (CI hrow (vr ((us++ [Value.slice none 0 0]).getD (D1.files.length) undef) rfl)) (RB.of (hb.keep hE) (vr vb rfl)) (by omega) hE.size fun a6 dy bj ag=> ?_)))))))
  have ag:Grew dx dy ((us++ [Value.slice none 0 0]).getD (D1.files.length) undef) a6:=ag
  have g:=eb al g
  have fi:OB a6 t:=Ax ag dv (bl g)
  have fj:Ak a6 j:=AH ag dw o.2
  have fk:Ak j a6:=fun k h1 h2=>fj k h2 h1
  have hE:=Ag hE ag hrow (Nat.le_refl _)
  have g:=Am g ag dv
  have h1now:=h1now.keep al
  have h1now:=Av h1now ag fb
  have h1kept:=h1kept.keep al
  have h1kept:=Av h1kept ag fc
  have m:=eb al m
  have m:=Am m ag fd
  have o:=Av o ag dw
  have r:=r.keep al
  have r:=Av r ag fe
  have p:=p.keep al
  have p:=Av p ag ff
  have ae:=ae.keep al
  have ae:=Av ae ag fg
  have f:=Am f ag fh
  have hvf:=ag.fresh
  have hcz_:=hC.size
  have hC:Chg (fun i=>(((us++ [Value.slice none 0 0]).getD (D1.files.length) undef)).ownBlock=some i∨(j).ownBlock=some i) bi dy:=Chg.grew hC ag (fun i e=> .inl (.inl e))
  clear hrow
  refine⟨⟨f,trivial⟩,?_⟩
  refine ys (Yk.atOwnK (k:=1) (i:=D1.files.length) IY NG rfl o.2 hgf rfl (by first | omega | (simp only[List.length_append,List.length_singleton,List.length_map];omega)) zz) (yD rfl (Yk.storeOG1 (i:=(D1.files.length)) (a:=a6) (c:=a6) undef rfl rfl rfl o hgf (by first | omega | (simp only[List.length_append,List.length_singleton,List.length_map];omega)) (CN bj) IQ fun fl b0 ac=> ?_))
  have fm:OB j n2:=Ax ac bv (bl f)
  have dz:OB j t:=Ax ac en (bl g)
  have fn:Ak j V1.now:=AH ac ep h1now.2
  have fo:Ak j V1.kept:=AH ac er h1kept.2
  have fp:OB j am:=Ax ac et (bl m)
  have fq:Ak j z:=AH ac e0 r.2
  have fr:Ak j ab:=AH ac e5 p.2
  have fs:Ak j af:=AH ac fa ae.2
  have ft:Ak j a6:=AH ac fk bj
  have hE:=Ag hE ac o.2 (Nat.le_refl _)
  have g:=Am g ac dz
  have h1now:=Av h1now ac fn
  have h1kept:=Av h1kept ac fo
  have m:=Am m ac fp
  have r:=Av r ac fq
  have p:=Av p ac fr
  have ae:=Av ae ac fs
  have f:=Am f ac fm
  have hC:Chg (fun i=>(((us++ [Value.slice none 0 0]).getD (D1.files.length) undef)).ownBlock=some i∨(j).ownBlock=some i) bi fl:=Chg.grew hC ac (fun i e=> .inl (.inr e))
  have bj:=Cl bj ac ft
  clear o
  have hFs:=RowsO.setRow hFs0 hkl hC (fun i hi e=>e.imp id (htf i)) (l:=([]:List UInt8)++b) (CJ (l' :=([]:List UInt8)++b) bj rfl) (fun i e=>(hvf i e).imp id (fun q=>Nat.le_trans hcz_ q))
  refine gS (Yk.loadSt AL rfl f (gS (Yk.storeSt AL (vr (PQ t 0) rfl) (vr (.agg (rdkC ((⟨true,((D1.quota:Nat):Int),(D1.files.map Prod.fst++ [[]]),((D1.files.map fun x=>((x.2:Nat):Int)))++ [0],turnD (D1.now) (⟨[],s,D1.files.length⟩:AM),D1.kept,(D1.acts)++ [(⟨[],s,D1.files.length⟩:AM)],D1.refused,D1.arm,D1.down⟩,⟨j,z,ab,V1.kept,af⟩):Au)).toArray) rfl) g (AA (x:=((⟨true,((D1.quota:Nat):Int),(D1.files.map Prod.fst++ [[]]),((D1.files.map fun x=>((x.2:Nat):Int)))++ [0],turnD (D1.now) (⟨[],s,D1.files.length⟩:AM),D1.kept,(D1.acts)++ [(⟨[],s,D1.files.length⟩:AM)],D1.refused,D1.arm,D1.down⟩,⟨j,z,ab,V1.kept,af⟩):Au)) (RG.one (RG.ofOwn b0)).2 (RG.one (RG.ofOwn r)).2 (RG.one (RG.ofOwn p)).2 (RG.one (RG.ofOwn h1kept)).2 (RG.one (RG.ofOwn ae)).2) fun cj d0 aq g8=> ?_)))
  have hE:=Aa hE aq (Nat.le_trans br (by omega))
  have h1now:=OG.kept h1now aq bw
  have h1kept:=OG.kept h1kept aq bx
  have m:=kb aq m (by omega)
  have r:=OG.kept r aq ew
  have p:=OG.kept p aq e3
  have ae:=OG.kept ae aq e8
  have f:=kb aq f (by omega)
  have bj:=A5 bj aq fi
  have b0:=OG.kept b0 aq dz
  have hFs:RowsO w.heap.size cj ((us++ [Value.slice none 0 0]).set D1.files.length a6) (((D1.files.map Prod.fst++ [[]]).set D1.files.length (([]:List UInt8)++b))):=RowsO.set hFs aq g (by decide)
  clear g
  have g:cj.heap[t]? =some (.cells (rdkC ((⟨true,((D1.quota:Nat):Int),(D1.files.map Prod.fst++ [[]]),((D1.files.map fun x=>((x.2:Nat):Int)))++ [0],turnD (D1.now) (⟨[],s,D1.files.length⟩:AM),D1.kept,(D1.acts)++ [(⟨[],s,D1.files.length⟩:AM)],D1.refused,D1.arm,D1.down⟩,⟨j,z,ab,V1.kept,af⟩):Au)).toArray 31 (0,0)):=d0;clear d0
  have g9:=bl g
  refine B2 rfl (ResF.row rfl g (FH).choose_spec rfl (AN (Ay _) E0)) (vr (NI 0) rfl) ?_
  have hOe:RdO w.heap.size cj ({ turnedD D1 ⟨[],s,D1.files.length⟩with files:=D1.files++ [(b,0)] }) ⟨j,z,ab,V1.kept,af⟩:=⟨⟨((us++ [Value.slice none 0 0]).set D1.files.length a6),RowsO.eq hFs rfl (by rw[show D1.files.length=(D1.files.map Prod.fst).length from(List.length_map _).symm,Qn];simp),b0⟩,Bk r (by simp),OG.low p e1,h1kept,Bk ae rfl⟩
  rw[GY bf hq hD1,Qm hk]
  exact⟨_,rfl,hOe.at_ hP,hE⟩
 rename_i k
 have hlz:=DD hk
 have hkn:=(hok1.now.look hk).1
 refine gS (Yk.fieldAt Ct rfl (gS (Yk.cell1 Bn rfl rfl (cellAt f (BU (Ac D1,V1))) (gS (Yk.callA2 Kw rfl rfl ((CW _ V1.now D1.now s ((k:Nat):Int) (RG.ofOwn h1now) (hL1.now) (hlz)).mono ?_))))))
 rintro e fu ⟨rfl,b1⟩
 refine⟨_,rfl,?_⟩
 have hFs:RowsO w.heap.size fu us (D1.files.map Prod.fst):=(hFs.keep b1)
 have h1now:=h1now.keep b1
 have f:=eb b1 f
 refine gS (Yk.eqI (a:=(k:Nat)) (b:=(0:Nat)) rfl rfl (AO _ _ _ _) (kF (by omega) (cF rfl (gS (Yk.fieldAt Ct rfl (gS (Yk.cell1 Bn rfl rfl (cellAt f (BU (Ac D1,V1))) (gS (Yk.callA2 Kw rfl rfl ((CW _ V1.now D1.now s ((k:Nat):Int) (RG.ofOwn h1now) (hL1.now) (hlz)).mono ?_))))))))))
 rintro e bk ⟨rfl,b2⟩
 refine⟨_,rfl,?_⟩
 have hFs:RowsO w.heap.size bk us (D1.files.map Prod.fst):=(hFs.keep b2)
 have hkl:k<(D1.files.map Prod.fst).length:=by rw[List.length_map];exact hkn
 have hrow:=hFs.own k hkl
 rw[C5 (d:=(([],0):List UInt8 × Nat)) rfl]at hrow
 have hFs0:=hFs
 have hlL:((D1.files.getD k ([],0)).1).length<1099511627776:=hL1.files _ (BD (d:=([],0)) hkn)
 have hZ3:=b1.trans b2
 have h1files:=h1files.keep hZ3
 obtain⟨gf,hgf⟩:=OG.block (i:=k) h1files (by rw[hul];exact hkn)
 have g:=eb hZ3 g
 have d1:Value.ownBlock ((us.getD (k) undef))≠some t:=Cf hrow g (by decide)
 have d2:Ak ((us.getD (k) undef)) V1.files:=AW hrow h1files.2 (by decide)
 have h1synced:=h1synced.keep hZ3
 have fv:Ak ((us.getD (k) undef)) V1.synced:=AW hrow h1synced.2 (by decide)
 have h1now:=h1now.keep b2
 have fw:Ak ((us.getD (k) undef)) V1.now:=AW hrow h1now.2 (by decide)
 have h1kept:=h1kept.keep hZ3
 have fx:Ak ((us.getD (k) undef)) V1.kept:=AW hrow h1kept.2 (by decide)
 have h1acts:=h1acts.keep hZ3
 have fy:Ak ((us.getD (k) undef)) V1.acts:=AW hrow h1acts.2 (by decide)
 have f:=eb b2 f
 have fz:Value.ownBlock ((us.getD (k) undef))≠some n2:=Cf hrow f (by decide)
 have hC:Chg (fun i=>((us.getD (k) undef)).ownBlock=some i∨(V1.files).ownBlock=some i) bk bk:=Chg.refl _ _
 have htf:∀i,(V1.files).ownBlock=some i→Cj bk i≠some (5+1):=fun i e=>by rw[Ck h1files.2 e];decide
 refine BV [0,1,2,3,4,5,6,7,8,9,10,11] [9,11] [0] [1] fun d3 az=> ?_
 have hC:Chg (fun i=>((us.getD (k) undef)).ownBlock=some i∨(V1.files).ownBlock=some i) bk d3:=(hC.keep az)
 have hE:=hE.trans (hZ3.trans az)
 have h1files:=h1files.keep az
 have f:=eb az f
 have hrow:=Stab.own _ _ _ _ _ _ _ _ hrow az
 refine HE f ?_
 refine yp (Yk.fieldAt H5 rfl zz) (yf (fun _ ⟨f,_⟩=>Yk.cell1 IY rfl rfl (cellAt f (C2 (Ac D1,V1))) zz) (ys (Yk.fieldAt H5 rfl zz) (ys (Yk.cell1 IY rfl rfl (cellAt f (C2 (Ac D1,V1))) zz) (ys (Yk.atOwnK (k:=1) (i:=k) IY NG rfl h1files.2 hgf rfl (by first | omega | (simp only[List.length_append,List.length_singleton,List.length_map];omega)) zz) (ys (Yk.loadC S2 rfl (by rw[show _=PQ gf (k*1)from rfl];exact OG.cell1 undef h1files hgf (by first | omega | (simp only[List.length_append,List.length_singleton,List.length_map];omega)) rfl) zz) (yI (Yk.appendRB _ _ w.heap.size (.int .u8 0) S2 SH rfl S2 ((D1.files.getD k ([],0)).1) (b) (CI hrow (vr (us.getD (k) undef) rfl)) (RB.of (hb.keep hE) (vr vb rfl)) (by omega) hE.size fun a7 d4 bm ak=> ?_)))))))
 have ak:Grew d3 d4 (us.getD (k) undef) a7:=ak
 have g:=eb az g
 have f0:OB a7 t:=Ax ak d1 (bl g)
 have f1:Ak a7 V1.files:=AH ak d2 h1files.2
 have f2:Ak V1.files a7:=fun k h1 h2=>f1 k h2 h1
 have hE:=Ag hE ak hrow (Nat.le_refl _)
 have g:=Am g ak d1
 have h1files:=Av h1files ak d2
 have h1synced:=h1synced.keep az
 have h1synced:=Av h1synced ak fv
 have h1now:=h1now.keep az
 have h1now:=Av h1now ak fw
 have h1kept:=h1kept.keep az
 have h1kept:=Av h1kept ak fx
 have h1acts:=h1acts.keep az
 have h1acts:=Av h1acts ak fy
 have f:=Am f ak fz
 have hvf:=ak.fresh
 have hcz_:=hC.size
 have hC:Chg (fun i=>((us.getD (k) undef)).ownBlock=some i∨(V1.files).ownBlock=some i) bk d4:=Chg.grew hC ak (fun i e=> .inl (.inl e))
 clear hrow
 refine⟨⟨f,trivial⟩,?_⟩
 refine ys (Yk.atOwnK (k:=1) (i:=k) IY NG rfl h1files.2 hgf rfl (by first | omega | (simp only[List.length_append,List.length_singleton,List.length_map];omega)) zz) (yD rfl (Yk.storeOG1 (i:=k) (a:=a7) (c:=a7) undef rfl rfl rfl h1files hgf (by first | omega | (simp only[List.length_append,List.length_singleton,List.length_map];omega)) (CN bm) IQ fun f3 b3 ah=> ?_))
 have f4:OB V1.files n2:=Ax ah bo (bl f)
 have d5:OB V1.files t:=Ax ah bs (bl g)
 have f5:Ak V1.files V1.synced:=AH ah b7 h1synced.2
 have f6:Ak V1.files V1.now:=AH ah b8 h1now.2
 have f7:Ak V1.files V1.kept:=AH ah b9 h1kept.2
 have f8:Ak V1.files V1.acts:=AH ah ca h1acts.2
 have f9:Ak V1.files a7:=AH ah f2 bm
 have hE:=Ag hE ah h1files.2 (Nat.le_refl _)
 have g:=Am g ah d5
 have h1synced:=Av h1synced ah f5
 have h1now:=Av h1now ah f6
 have h1kept:=Av h1kept ah f7
 have h1acts:=Av h1acts ah f8
 have f:=Am f ah f4
 have hC:Chg (fun i=>((us.getD (k) undef)).ownBlock=some i∨(V1.files).ownBlock=some i) bk f3:=Chg.grew hC ah (fun i e=> .inl (.inr e))
 have bm:=Cl bm ah f9
 clear h1files
 have hFs:=RowsO.setRow hFs0 hkl hC (fun i hi e=>e.imp id (htf i)) (l:=(D1.files.getD k ([],0)).1++b) (CJ (l' :=(D1.files.getD k ([],0)).1++b) bm rfl) (fun i e=>(hvf i e).imp id (fun q=>Nat.le_trans hcz_ q))
 refine gS (Yk.loadSt AL rfl f (gS (Yk.storeSt AL (vr (PQ t 0) rfl) (vr (.agg (rdkC (Ac D1,V1)).toArray) rfl) g (AA (x:=(Ac D1,V1)) (RG.one (RG.ofOwn b3)).2 (RG.one (RG.ofOwn h1synced)).2 (RG.one (RG.ofOwn h1now)).2 (RG.one (RG.ofOwn h1kept)).2 (RG.one (RG.ofOwn h1acts)).2) fun ck d6 a8 ha=> ?_)))
 have hE:=Aa hE a8 (Nat.le_trans br (by omega))
 have h1synced:=OG.kept h1synced a8 bt
 have h1now:=OG.kept h1now a8 bw
 have h1kept:=OG.kept h1kept a8 bx
 have h1acts:=OG.kept h1acts a8 bu
 have f:=kb a8 f (by omega)
 have bm:=A5 bm a8 f0
 have b3:=OG.kept b3 a8 d5
 have hFs:RowsO w.heap.size ck (us.set k a7) (((D1.files.map Prod.fst).set k ((D1.files.getD k ([],0)).1++b))):=RowsO.set hFs a8 g (by decide)
 clear g
 have g:ck.heap[t]? =some (.cells (rdkC (Ac D1,V1)).toArray 31 (0,0)):=d6;clear d6
 have hc:=bl g
 refine B2 rfl (ResF.row rfl g (FH).choose_spec rfl (AN (Ay _) E0)) (vr (NI 0) rfl) ?_
 have hOe:RdO w.heap.size ck ({ D1 with files:=D1.files.set k ((D1.files.getD k ([],0)).1++b,(D1.files.getD k ([],0)).2) }) ⟨V1.files,V1.synced,V1.now,V1.kept,V1.acts⟩:=⟨⟨(us.set k a7),RowsO.eq hFs rfl (Lm (x:=(_,_))).symm,b3⟩,Bk h1synced (Ln hkn).symm,h1now,h1kept,h1acts⟩
 rw[GY bf hq hD1,LC hk]
 exact⟨_,rfl,hOe.at_ hP,hE⟩

theorem Ou{P:Nat→Prop}(w:World)(D:An)(V:Cn)(hR:RdAt P w D V)(hP:∀b,w.heap.size≤b→P b)(hok:DOk D)(hL:Co D)(hfn:D.files.length<1099511627776)(s:List UInt8)(ax:D.now.length+1<1099511627776)(ha1:D.acts.length+1<1099511627776):
  Calls Tryz.prog 52 #[.agg (rdkC (Ac D,V)).toArray,St s] w fun e w' =>∃V',e = .returned (.tuple #[.agg (rdkC (Ac (Aw D s).1,V')).toArray,NI (Aw D s).2])∧RdAt P w' (Aw D s).1 V' ∧Ext w w' :=by
 obtain⟨vs,hvs,hfiles0⟩:=hR.files
 have hfiles:=hfiles0.1
 have hsynced:=hR.synced.1
 have hnow:=hR.now.1
 have hkept:=hR.kept.1
 have hacts:=hR.acts.1
 refine gG (args:= [.agg (rdkC (Ac D,V)).toArray,St (s)]) Tryz.func52 rfl 49 rfl rfl ?_
 have hE:=Ext.refl w
 refine gS (Yk.box (cs:=(rdkC (Ac D,V):List Value).toArray) (vr (.agg (rdkC (Ac D,V)).toArray) rfl) fun j w3 cf ay bt cg=> ?_)
 have f:=ay;clear ay
 have ch:j<w3.heap.size:=by omega
 refine gS (Yk.alloc (cs:=(rdkC ((⟨false,0,[],[],[],[],[],0,0,false⟩,⟨.slice none 0 0, .slice none 0 0, .slice none 0 0, .slice none 0 0, .slice none 0 0⟩):Au)).toArray) Ku fun h bu bv az a0 ci=> ?_)
 have hE:=hE.trans bt
 have ai:=hE.size
 have cj:=AE (bl f) bv
 have g:=az;clear az
 have ck:h<bu.heap.size:=by omega
 have hE:=hE.trans a0
 have f:=eb a0 f
 refine gS (Yk.loadSt AL rfl f (gS (Yk.callA3 Kv rfl rfl rfl ((E1 _ D V (hR.keep hE) s s).mono ?_))))
 rintro e cl ⟨rfl,u⟩
 refine⟨_,rfl,?_⟩
 refine gS (Yk.eqI (a:=((A6 D s s):Nat)) (b:=(0:Nat)) rfl rfl (AZ _ _ _ _) ?_)
 refine cD rfl (fun ah=> ?_) fun ah=> ?_
 ·have hE:=hE.trans u
  have f:=eb u f
  have g:=eb u g
  refine gS (Yk.loadSt AL rfl f (gS (Yk.storeSt AL (vr (PQ h 0) rfl) (vr (.agg (rdkC (Ac D,V)).toArray) rfl) g (AA (x:=(Ac D,V)) (RG.one (hfiles.keep hE)).2 (RG.one (hsynced.keep hE)).2 (RG.one (hnow.keep hE)).2 (RG.one (hkept.keep hE)).2 (RG.one (hacts.keep hE)).2) fun bw a1 a2 cm=> ?_)))
  have hE:=Aa hE a2 (Nat.le_trans ai (by omega))
  have f:=kb a2 f (by omega)
  clear g
  have g:bw.heap[h]? =some (.cells (rdkC (Ac D,V)).toArray 31 (0,0)):=a1;clear a1
  have cn:=bl g
  refine B2 rfl (ResF.row rfl g (FH).choose_spec rfl (AN (Ay _) E0)) (vr (NI (A6 D s s)) rfl) ?_
  rw[show Aw D s=(D,A6 D s s)from by unfold Aw;rw[LT ah]]
  exact⟨V,rfl,(hR.keep hE),hE⟩
 cases hk:AD D.now s
 ·have hlz:=Ec hk
  have hE:=hE.trans u
  have f:=eb u f
  refine gS (Yk.fieldAt Ct rfl (gS (Yk.cell1 Bn rfl rfl (cellAt f (BU (Ac D,V))) (gS (Yk.callA2 Kw rfl rfl ((CW _ V.now D.now s (-1) (hnow.keep hE) (hL.now) (hlz)).mono ?_))))))
  rintro e co ⟨rfl,aj⟩
  refine⟨_,rfl,?_⟩
  have g:=eb (u.trans aj) g
  have hE:=hE.trans aj
  have f:=eb aj f
  refine gS (Yk.eqI rfl rfl (D3 _ .i64 (-1:Int) ((0:Nat):Int)) (kT (by decide) (cT rfl (gS (Yk.loadSt AL rfl f (gS (Yk.storeSt AL (vr (PQ h 0) rfl) (vr (.agg (rdkC (Ac D,V)).toArray) rfl) g (AA (x:=(Ac D,V)) (RG.one (hfiles.keep hE)).2 (RG.one (hsynced.keep hE)).2 (RG.one (hnow.keep hE)).2 (RG.one (hkept.keep hE)).2 (RG.one (hacts.keep hE)).2) fun bx a3 a4 cp=> ?_)))))))
  have hE:=Aa hE a4 (Nat.le_trans ai (by omega))
  have f:=kb a4 f (by omega)
  clear g
  have g:bx.heap[h]? =some (.cells (rdkC (Ac D,V)).toArray 31 (0,0)):=a3;clear a3
  have cq:=bl g
  refine B2 rfl (ResF.row rfl g (FH).choose_spec rfl (AN (Ay _) E0)) (vr (NI 4) rfl) ?_
  rw[show Aw D s=(D,4)from by unfold Aw;rw[Jf ah hk]]
  exact⟨V,rfl,(hR.keep hE),hE⟩
 rename_i k
 have hlz:=DD hk
 have hkn:=(hok.now.look hk).1
 have hE:=hE.trans u
 have f:=eb u f
 refine gS (Yk.fieldAt Ct rfl (gS (Yk.cell1 Bn rfl rfl (cellAt f (BU (Ac D,V))) (gS (Yk.callA2 Kw rfl rfl ((CW _ V.now D.now s ((k:Nat):Int) (hnow.keep hE) (hL.now) (hlz)).mono ?_))))))
 rintro e ak ⟨rfl,al⟩
 refine⟨_,rfl,?_⟩
 have f:=eb al f
 refine gS (Yk.eqI (a:=(k:Nat)) (b:=(0:Nat)) rfl rfl (AO _ _ _ _) (kF (by omega) (cF rfl (gS (Yk.loadSt AL rfl f ?_)))))
 have hE:=hE.trans al
 have hsz_:w.heap.size≤ak.heap.size:=(hE).size
 have hl_n2:j<ak.heap.size:=(bl f)
 have g:=eb (u.trans al) g
 have hl_n10:h<ak.heap.size:=(bl g)
 refine gS (Yk.callA1 Hm rfl ((FJ _ D V (hR.keep hE) hL hfn).mono ?_))
 rintro e cr ⟨V1,rfl,hO50,bz⟩
 refine⟨_,rfl,?_⟩
 obtain⟨us,hFs,h1files⟩:=hO50.files
 have h1synced:=hO50.synced
 have h1now:=hO50.now
 have h1kept:=hO50.kept
 have h1acts:=hO50.acts
 have am:OB V1.files j:=Ao h1files.2 hl_n2
 have a5:OB V1.synced j:=Ao h1synced.2 hl_n2
 have an:OB V1.now j:=Ao h1now.2 hl_n2
 have ao:OB V1.kept j:=Ao h1kept.2 hl_n2
 have ap:OB V1.acts j:=Ao h1acts.2 hl_n2
 have a6:OB V1.files h:=Ao h1files.2 hl_n10
 have a7:OB V1.synced h:=Ao h1synced.2 hl_n10
 have a8:OB V1.now h:=Ao h1now.2 hl_n10
 have a9:OB V1.kept h:=Ao h1kept.2 hl_n10
 have ba:OB V1.acts h:=Ao h1acts.2 hl_n10
 have hFs:=RowsO.low hFs hsz_
 have h1files:=OG.low h1files hsz_
 have h1synced:=OG.low h1synced hsz_
 have h1now:=OG.low h1now hsz_
 have h1kept:=OG.low h1kept hsz_
 have h1acts:=OG.low h1acts hsz_
 have b0:Ak V1.synced V1.files:=AW h1synced.2 h1files.2 (by decide)
 have b1:Ak V1.synced V1.now:=AW h1synced.2 h1now.2 (by decide)
 have b2:Ak V1.synced V1.kept:=AW h1synced.2 h1kept.2 (by decide)
 have b3:Ak V1.synced V1.acts:=AW h1synced.2 h1acts.2 (by decide)
 have hO1:=(⟨⟨us,hFs,h1files⟩,h1synced,h1now,h1kept,h1acts⟩:RdO w.heap.size _ D V1)
 obtain⟨D1,dn,hD1⟩:∃x y,Bh D=(x,y):=⟨_,_,rfl⟩
 have hD1f:(Bh D).1=D1:=congrArg Prod.fst hD1
 have hO2:=hO1.armed
 rw[hD1f]at hO2
 have hok1:=KA hok
 rw[hD1f]at hok1
 have hL1:=KB hL
 rw[hD1f]at hL1
 have hfe:=Dd D
 rw[hD1f]at hfe
 obtain⟨hfe1,hfe2,hfe3,hfe4,hfe5,hfe6⟩:=hfe
 refine gS (Yk.callA1 Hn rfl ((Hl _ D V1 (RdO.at_ hO1 (P:=fun _=>True) (fun _ _=>trivial)) hL hD1).mono ?_))
 rintro e bb ⟨rfl,af⟩
 refine⟨_,rfl,?_⟩
 have hFs:RowsO w.heap.size bb us (D.files.map Prod.fst):=(hFs.keep af)
 have h1files:=h1files.keep af
 have h1synced:=h1synced.keep af
 have h1now:=h1now.keep af
 have h1kept:=h1kept.keep af
 have h1acts:=h1acts.keep af
 have hO3:RdO w.heap.size bb D1 V1:=RdO.same (D:=D) ⟨⟨us,hFs,h1files⟩,h1synced,h1now,h1kept,h1acts⟩ hfe1 hfe2 hfe3 hfe4
 clear hFs h1files h1synced h1now h1kept h1acts
 have hus:=hO3
 obtain⟨us,hFs,h1files⟩:=hO3.files
 have h1synced:=hO3.synced
 have h1now:=hO3.now
 have h1kept:=hO3.kept
 have h1acts:=hO3.acts
 have hZ1:=bz.trans af
 have f:=eb hZ1 f
 refine gS (Yk.extract (vs:= [.agg (rdkC (Ac D1,V1)).toArray, .bool (dn)]) rfl rfl (gS (Yk.extract (vs:= [.agg (rdkC (Ac D1,V1)).toArray, .bool (dn)]) rfl rfl (gS (Yk.storeSt AL (vr (PQ j 0) rfl) (vr (.agg (rdkC (Ac D1,V1)).toArray) rfl) f (AA (x:=(Ac D1,V1)) (RG.one (RG.ofOwn h1files)).2 (RG.one (RG.ofOwn h1synced)).2 (RG.one (RG.ofOwn h1now)).2 (RG.one (RG.ofOwn h1kept)).2 (RG.one (RG.ofOwn h1acts)).2) fun bc bd ad ct=> ?_)))))
 have hE:=hE.trans hZ1
 have hE:=Aa hE ad (Nat.le_trans (Nat.le_refl _) (by omega))
 have g:=eb hZ1 g
 have g:=kb ad g (by omega)
 have h1files:=OG.kept h1files ad am
 have h1synced:=OG.kept h1synced ad a5
 have h1now:=OG.kept h1now ad an
 have h1kept:=OG.kept h1kept ad ao
 have h1acts:=OG.kept h1acts ad ap
 have hFs:RowsO w.heap.size bc us (D1.files.map Prod.fst):=RowsO.set hFs ad f (by decide)
 clear f
 have f:bc.heap[j]? =some (.cells (rdkC (Ac D1,V1)).toArray 31 (0,0)):=bd;clear bd
 have cu:=bl f
 refine cB (dn) rfl (fun aq=> ?_) fun aq=> ?_
 ·rw[show dn=true from aq]at hD1
  refine gS (Yk.loadSt AL rfl f (gS (Yk.storeSt AL (vr (PQ h 0) rfl) (vr (.agg (rdkC (Ac D1,V1)).toArray) rfl) g (AA (x:=(Ac D1,V1)) (RG.one (RG.ofOwn h1files)).2 (RG.one (RG.ofOwn h1synced)).2 (RG.one (RG.ofOwn h1now)).2 (RG.one (RG.ofOwn h1kept)).2 (RG.one (RG.ofOwn h1acts)).2) fun ar be ae cv=> ?_)))
  have hE:=Aa hE ae (Nat.le_trans ai (by omega))
  have h1files:=OG.kept h1files ae a6
  have h1synced:=OG.kept h1synced ae a7
  have h1now:=OG.kept h1now ae a8
  have h1kept:=OG.kept h1kept ae a9
  have h1acts:=OG.kept h1acts ae ba
  have hFs:RowsO w.heap.size ar us (D1.files.map Prod.fst):=RowsO.set hFs ae g (by decide)
  have f:=kb ae f (by omega)
  clear g
  have g:ar.heap[h]? =some (.cells (rdkC (Ac D1,V1)).toArray 31 (0,0)):=be;clear be
  have cw:=bl g
  refine B2 rfl (ResF.row rfl g (FH).choose_spec rfl (AN (Ay _) E0)) (vr (NI 9) rfl) ?_
  have hOe:RdO w.heap.size ar (D1) V1:=⟨⟨us,hFs,h1files⟩,h1synced,h1now,h1kept,h1acts⟩
  rw[show Aw D s=(D1,9)from by unfold Aw;rw[E2 ah hk];exact KE hD1]
  exact⟨V1,rfl,hOe.at_ hP,hE⟩
 rw[show dn=false from aq]at hD1
 have hul:us.length=D1.files.length:=by rw[hFs.len,List.length_map]
 have hkn1:k<D1.files.length:=by rw[hfe1];exact hkn
 have ax:D1.now.length+1<1099511627776:=by rw[hfe2];exact ax
 have ha1:D1.acts.length+1<1099511627776:=by rw[hfe4];exact ha1
 have hfk:=RB.ofOwn (hFs.own k (by rw[List.length_map];exact hkn1))
 rw[C5 (d:=(([],0):List UInt8 × Nat)) rfl]at hfk
 have hlL:=hL1.files _ (BD (d:=([],0)) hkn1)
 obtain⟨gf,hgf⟩:=OG.block (i:=k) h1files (by rw[hul];exact hkn1)
 obtain⟨gs,hgs⟩:=OG.block (i:=k) h1synced (by rw[List.length_map];exact hkn1)
 have hks:k<(D1.files.map fun x=>((x.2:Nat):Int)).length:=by rw[List.length_map];exact hkn1
 have hgsn:Ak (us.getD (k) undef) V1.synced:=AW (hFs.own k (by rw[List.length_map];exact hkn1)) h1synced.2 (by decide)
 refine B5 [0,1,2,3,4,5,6,7,8,9,10] [10] [] fun b4 q=> ?_
 have hFs:RowsO w.heap.size b4 us (D1.files.map Prod.fst):=(hFs.keep q)
 have h1files:=h1files.keep q
 have h1synced:=h1synced.keep q
 have f:=eb q f
 have hfk:=hfk.keep q
 refine ys (Yk.fieldAt H6 rfl zz) (ys (Yk.cell1 Du rfl rfl (cellAt f (Gw (Ac D1,V1))) zz) (ys (Yk.fieldAt H5 rfl zz) (ys (Yk.cell1 IY rfl rfl (cellAt f (C2 (Ac D1,V1))) zz) (ys (Yk.atOwnK (k:=1) (i:=k) IY NG rfl h1files.2 hgf rfl (by first | omega | (simp only[List.length_append,List.length_singleton,List.length_map,List.length_nil];omega)) zz) (ys (Yk.loadC S2 rfl (by rw[show _=PQ gf (k*1)from rfl];exact OG.cell1 undef h1files hgf (by first | omega | (simp only[List.length_append,List.length_singleton,List.length_map,List.length_nil];omega)) rfl) zz) (ys (Yk.lenRB S2 (RB.of hfk rfl) zz) (ys (Yk.atOwnK (k:=1) (i:=k) Du Pt rfl h1synced.2 hgs rfl (by first | omega | (simp only[List.length_append,List.length_singleton,List.length_map,List.length_nil];omega)) zz) (yC (Yk.storeOG1 (i:=k) (a:=((((D1.files.getD k ([],0)).1:List UInt8).length:Nat):Int)) (c:=NI (((D1.files.getD k ([],0)).1:List UInt8).length)) (0:Int) rfl rfl rfl h1synced hgs (by first | omega | (simp only[List.length_append,List.length_singleton,List.length_map,List.length_nil];omega)) ⟨rfl,rfl⟩ Ph fun au n l=> ?_)))))))))
 have av:OB V1.synced j:=Ax l a5 (bl f)
 have g:=eb q g
 have bf:OB V1.synced h:=Ax l a7 (bl g)
 have b5:Ak V1.synced V1.files:=AH l b0 h1files.2
 have h1now:=h1now.keep q
 have b6:Ak V1.synced V1.now:=AH l b1 h1now.2
 have h1kept:=h1kept.keep q
 have b7:Ak V1.synced V1.kept:=AH l b2 h1kept.2
 have h1acts:=h1acts.keep q
 have b8:Ak V1.synced V1.acts:=AH l b3 h1acts.2
 have hE:=hE.trans q
 have hE:=Ag hE l h1synced.2 (Nat.le_refl _)
 have g:=Am g l bf
 have h1files:=Av h1files l b5
 have h1now:=Av h1now l b6
 have h1kept:=Av h1kept l b7
 have h1acts:=Av h1acts l b8
 have hFs:RowsO w.heap.size au us (D1.files.map Prod.fst):=RowsO.grew hFs l h1synced.2 (by decide)
 have f:=Am f l av
 clear h1synced
 have ag:=Ext.refl au
 have bg:=hE.size
 refine gS (Yk.lit0G (k:=2) (enc:=renC) Jd fun z bh o r=> ?_)
 have bi:OB z h:=Ao o.2 (bl g)
 have bj:OB z j:=Ao o.2 (bl f)
 have b9:Ak z V1.files:=Be h1files.2 o.2
 have ca:Ak z V1.now:=Be h1now.2 o.2
 have cb:Ak z V1.kept:=Be h1kept.2 o.2
 have cc:Ak z V1.acts:=Be h1acts.2 o.2
 have cd:Ak z V1.synced:=Be n.2 o.2
 have hFs:RowsO w.heap.size bh us (D1.files.map Prod.fst):=(hFs.keep r)
 have h1now:=h1now.keep r
 have f:=eb r f
 have ag:=ag.trans r
 refine gS (Yk.fieldAt Ct rfl (gS (Yk.cell1 Bn rfl rfl (cellAt f (BU (Ac D1,V1))) (gS (Yk.appendRG _ _ au.heap.size _ 24 Bn rd1_ig83.choose_spec.1 rd1_ig83.choose_spec.2 Bn ([]) (D1.now) (OG.of o (vr z rfl)) (RG.of (RG.ofOwn h1now) (vr V1.now rfl)) (fun _ _=>CG) (by first | omega | (simp only[List.length_append,List.length_singleton,List.length_map,List.length_nil];omega)) (by first | omega | (simp only[List.length_append,List.length_singleton,List.length_map,List.length_nil];omega)) ag.size fun p bk t m=> ?_)))))
 have m:Grew bh bk z p:=m
 have g:=eb r g
 have ce:OB p h:=Ax m bi (bl g)
 have bm:OB p j:=Ax m bj (bl f)
 have hE:=hE.trans r
 have hE:=Ag hE m o.2 bg
 have g:=Am g m bi
 have h1files:=h1files.keep r
 have h1files:=Av h1files m b9
 have h1now:=Av h1now m ca
 have h1kept:=h1kept.keep r
 have h1kept:=Av h1kept m cb
 have h1acts:=h1acts.keep r
 have h1acts:=Av h1acts m cc
 have hFs:RowsO w.heap.size bk us (D1.files.map Prod.fst):=RowsO.grew hFs m o.2 (by decide)
 have f:=Am f m bj
 have n:=n.keep r
 have n:=Av n m cd
 have ag:=Ag ag m o.2 (Nat.le_refl _)
 clear o
 refine gS (Yk.fieldAt H7 rfl (gS (Yk.storeC (i:=5) (v:=p) rfl rfl f (by rw[Ay];decide) Je (RG.one (RG.ofOwn t)).1 (RG.one (RG.ofOwn t)).2 fun bn bo aa cx=> ?_)))
 have hE:=Aa hE aa (Nat.le_trans (Nat.le_refl _) (by omega))
 have g:=kb aa g (by omega)
 have h1files:=OG.kept h1files aa am
 have h1now:=OG.kept h1now aa an
 have h1kept:=OG.kept h1kept aa ao
 have h1acts:=OG.kept h1acts aa ap
 have hFs:RowsO w.heap.size bn us (D1.files.map Prod.fst):=RowsO.set hFs aa f (by decide)
 have n:=OG.kept n aa av
 clear ag
 have t:=OG.kept t aa bm
 clear f
 have f:bn.heap[j]? =some (.cells (rdkC ((⟨true,((D1.quota:Nat):Int),(D1.files.map Prod.fst),(D1.files.map fun x=>((x.2:Nat):Int)),D1.now,([])++D1.now,D1.acts,D1.refused,D1.arm,D1.down⟩,⟨V1.files,V1.synced,V1.now,p,V1.acts⟩):Au)).toArray 31 (0,0)):=AF bo (Ko (Ac D1,V1) p (([])++D1.now));clear bo
 have cy:=bl f
 refine gS (Yk.fieldAt H9 rfl (gS (Yk.storeC (i:=6) (v:=(Value.slice none 0 0)) rfl rfl f (by rw[Ay];decide) Oq rfl rfl fun bp bq ab cz=> ?_)))
 have hE:=Aa hE ab (Nat.le_trans (Nat.le_refl _) (by omega))
 have g:=kb ab g (by omega)
 have h1files:=OG.kept h1files ab am
 have h1now:=OG.kept h1now ab an
 have h1kept:=OG.kept h1kept ab ao
 have h1acts:=OG.kept h1acts ab ap
 have hFs:RowsO w.heap.size bp us (D1.files.map Prod.fst):=RowsO.set hFs ab f (by decide)
 have n:=OG.kept n ab av
 have t:=OG.kept t ab bm
 clear f
 have f:bp.heap[j]? =some (.cells (rdkC ((⟨true,((D1.quota:Nat):Int),(D1.files.map Prod.fst),(D1.files.map fun x=>((x.2:Nat):Int)),D1.now,([])++D1.now,[],D1.refused,D1.arm,D1.down⟩,⟨V1.files,V1.synced,V1.now,p,((Value.slice none 0 0))⟩):Au)).toArray 31 (0,0)):=AF bq (H0 ((⟨true,((D1.quota:Nat):Int),(D1.files.map Prod.fst),(D1.files.map fun x=>((x.2:Nat):Int)),D1.now,([])++D1.now,D1.acts,D1.refused,D1.arm,D1.down⟩,⟨V1.files,V1.synced,V1.now,p,V1.acts⟩):Au) (Value.slice none 0 0) ([]));clear bq
 have c0:=bl f
 refine gS (Yk.loadSt AL rfl f (gS (Yk.storeSt AL (vr (PQ h 0) rfl) (vr (.agg (rdkC ((⟨true,((D1.quota:Nat):Int),(D1.files.map Prod.fst),(D1.files.map fun x=>((x.2:Nat):Int)),D1.now,([])++D1.now,[],D1.refused,D1.arm,D1.down⟩,⟨V1.files,V1.synced,V1.now,p,((Value.slice none 0 0))⟩):Au)).toArray) rfl) g (AA (x:=((⟨true,((D1.quota:Nat):Int),(D1.files.map Prod.fst),(D1.files.map fun x=>((x.2:Nat):Int)),D1.now,([])++D1.now,[],D1.refused,D1.arm,D1.down⟩,⟨V1.files,V1.synced,V1.now,p,((Value.slice none 0 0))⟩):Au)) (RG.one (RG.ofOwn h1files)).2 (RG.one (RG.ofOwn n)).2 (RG.one (RG.ofOwn h1now)).2 (RG.one (RG.ofOwn t)).2 rfl) fun aw br ac c1=> ?_)))
 have hE:=Aa hE ac (Nat.le_trans ai (by omega))
 have h1files:=OG.kept h1files ac a6
 have h1now:=OG.kept h1now ac a8
 have h1kept:=OG.kept h1kept ac a9
 have h1acts:=OG.kept h1acts ac ba
 have hFs:RowsO w.heap.size aw us (D1.files.map Prod.fst):=RowsO.set hFs ac g (by decide)
 have n:=OG.kept n ac bf
 have t:=OG.kept t ac ce
 have f:=kb ac f (by omega)
 clear g
 have g:aw.heap[h]? =some (.cells (rdkC ((⟨true,((D1.quota:Nat):Int),(D1.files.map Prod.fst),(D1.files.map fun x=>((x.2:Nat):Int)),D1.now,([])++D1.now,[],D1.refused,D1.arm,D1.down⟩,⟨V1.files,V1.synced,V1.now,p,((Value.slice none 0 0))⟩):Au)).toArray 31 (0,0)):=br;clear br
 have c2:=bl g
 refine B2 rfl (ResF.row rfl g (FH).choose_spec rfl (AN (Ay _) E0)) (vr (NI 0) rfl) ?_
 have hOe:RdO w.heap.size aw ({ D1 with files:=D1.files.set k ((AJ D1 k).1,(AJ D1 k).1.length),kept:=D1.now,acts:= [] }) ⟨V1.files,V1.synced,V1.now,p,((Value.slice none 0 0))⟩:=⟨⟨us,RowsO.eq hFs rfl (KF hkn1).symm,h1files⟩,Bk n (KG (x:=((AJ D1 k).1,(AJ D1 k).1.length))).symm,h1now,OG.low t bg,OG.nil _ _ _ _ _⟩
 rw[show Aw D s=(_,0)from by unfold Aw;rw[E2 ah hk];exact LS hD1]
 exact⟨_,rfl,hOe.at_ hP,hE⟩

theorem Ov{P:Nat→Prop}(w:World)(D:An)(V:Cn)(hR:RdAt P w D V)(hP:∀b,w.heap.size≤b→P b)(hok:DOk D)(hL:Co D)(hfn:D.files.length<1099511627776)(s:List UInt8)(al:D.now.length+1<1099511627776)(ha1:D.acts.length+1<1099511627776):
  Calls Tryz.prog 51 #[.agg (rdkC (Ac D,V)).toArray,St s,St ([]:List UInt8), .bool true] w fun e w' =>∃V',e = .returned (.tuple #[.agg (rdkC (Ac (Ar D s).1,V')).toArray,NI (Ar D s).2])∧RdAt P w' (Ar D s).1 V' ∧Ext w w' :=by
 obtain⟨vs,hvs,hfiles0⟩:=hR.files
 have hfiles:=hfiles0.1
 have hsynced:=hR.synced.1
 have hnow:=hR.now.1
 have hkept:=hR.kept.1
 have hacts:=hR.acts.1
 refine gG (args:= [.agg (rdkC (Ac D,V)).toArray,St (s),St (([]:List UInt8)), .bool (true)]) Tryz.func51 rfl 59 rfl rfl ?_
 have hE:=Ext.refl w
 refine gS (Yk.box (cs:=(rdkC (Ac D,V):List Value).toArray) (vr (.agg (rdkC (Ac D,V)).toArray) rfl) fun m w3 cl a0 b3 cm=> ?_)
 have c:=a0;clear a0
 have cn:m<w3.heap.size:=by omega
 refine gS (Yk.alloc (cs:=(rdkC ((⟨false,0,[],[],[],[],[],0,0,false⟩,⟨.slice none 0 0, .slice none 0 0, .slice none 0 0, .slice none 0 0, .slice none 0 0⟩):Au)).toArray) Ku fun h b4 b5 a1 a2 co=> ?_)
 have hE:=hE.trans b3
 have aj:=hE.size
 have cp:=AE (bl c) b5
 have f:=a1;clear a1
 have cq:h<b4.heap.size:=by omega
 have hE:=hE.trans a2
 have c:=eb a2 c
 refine cT rfl (gS (Yk.loadSt AL rfl c (gS (Yk.callA3 Kv rfl rfl rfl ((E1 _ D V (hR.keep hE) s s).mono ?_)))))
 rintro e cr ⟨rfl,z⟩
 refine⟨_,rfl,?_⟩
 refine gS (Yk.eqI (a:=((A6 D s s):Nat)) (b:=(0:Nat)) rfl rfl (AZ _ _ _ _) ?_)
 refine cD rfl (fun ai=> ?_) fun ai=> ?_
 ·have hE:=hE.trans z
  have c:=eb z c
  have f:=eb z f
  refine gS (Yk.loadSt AL rfl c (gS (Yk.storeSt AL (vr (PQ h 0) rfl) (vr (.agg (rdkC (Ac D,V)).toArray) rfl) f (AA (x:=(Ac D,V)) (RG.one (hfiles.keep hE)).2 (RG.one (hsynced.keep hE)).2 (RG.one (hnow.keep hE)).2 (RG.one (hkept.keep hE)).2 (RG.one (hacts.keep hE)).2) fun b6 a3 a4 ct=> ?_)))
  have hE:=Aa hE a4 (Nat.le_trans aj (by omega))
  have c:=kb a4 c (by omega)
  clear f
  have f:b6.heap[h]? =some (.cells (rdkC (Ac D,V)).toArray 31 (0,0)):=a3;clear a3
  have cu:=bl f
  refine B2 rfl (ResF.row rfl f (FH).choose_spec rfl (AN (Ay _) E0)) (vr (NI (A6 D s s)) rfl) ?_
  rw[show Ar D s=(D,A6 D s s)from by unfold Ar;rw[LT ai]]
  exact⟨V,rfl,(hR.keep hE),hE⟩
 cases hk:AD D.now s
 ·have hlz:=Ec hk
  have hE:=hE.trans z
  have c:=eb z c
  refine gS (Yk.fieldAt Ct rfl (gS (Yk.cell1 Bn rfl rfl (cellAt c (BU (Ac D,V))) (gS (Yk.callA2 Kw rfl rfl ((CW _ V.now D.now s (-1) (hnow.keep hE) (hL.now) (hlz)).mono ?_))))))
  rintro e cv ⟨rfl,am⟩
  refine⟨_,rfl,?_⟩
  have f:=eb (z.trans am) f
  have hE:=hE.trans am
  have c:=eb am c
  refine gS (Yk.eqI rfl rfl (D3 _ .i64 (-1:Int) ((0:Nat):Int)) (kT (by decide) (cT rfl (gS (Yk.loadSt AL rfl c (gS (Yk.storeSt AL (vr (PQ h 0) rfl) (vr (.agg (rdkC (Ac D,V)).toArray) rfl) f (AA (x:=(Ac D,V)) (RG.one (hfiles.keep hE)).2 (RG.one (hsynced.keep hE)).2 (RG.one (hnow.keep hE)).2 (RG.one (hkept.keep hE)).2 (RG.one (hacts.keep hE)).2) fun b7 a5 a6 cw=> ?_)))))))
  have hE:=Aa hE a6 (Nat.le_trans aj (by omega))
  have c:=kb a6 c (by omega)
  clear f
  have f:b7.heap[h]? =some (.cells (rdkC (Ac D,V)).toArray 31 (0,0)):=a5;clear a5
  have cx:=bl f
  refine B2 rfl (ResF.row rfl f (FH).choose_spec rfl (AN (Ay _) E0)) (vr (NI 4) rfl) ?_
  rw[show Ar D s=(D,4)from by unfold Ar;rw[Jf ai hk]]
  exact⟨V,rfl,(hR.keep hE),hE⟩
 rename_i k
 have hlz:=DD hk
 have hkn:=(hok.now.look hk).1
 have hE:=hE.trans z
 have c:=eb z c
 refine gS (Yk.fieldAt Ct rfl (gS (Yk.cell1 Bn rfl rfl (cellAt c (BU (Ac D,V))) (gS (Yk.callA2 Kw rfl rfl ((CW _ V.now D.now s ((k:Nat):Int) (hnow.keep hE) (hL.now) (hlz)).mono ?_))))))
 rintro e an ⟨rfl,ao⟩
 refine⟨_,rfl,?_⟩
 have c:=eb ao c
 refine gS (Yk.eqI (a:=(k:Nat)) (b:=(0:Nat)) rfl rfl (AO _ _ _ _) (kF (by omega) (cF rfl (gS (Yk.loadSt AL rfl c ?_)))))
 have hE:=hE.trans ao
 have hsz_:w.heap.size≤an.heap.size:=(hE).size
 have hl_n2:m<an.heap.size:=(bl c)
 have f:=eb (z.trans ao) f
 have hl_n10:h<an.heap.size:=(bl f)
 refine gS (Yk.callA1 Hm rfl ((FJ _ D V (hR.keep hE) hL hfn).mono ?_))
 rintro e cy ⟨V1,rfl,hO53,b8⟩
 refine⟨_,rfl,?_⟩
 obtain⟨us,hFs,h1files⟩:=hO53.files
 have h1synced:=hO53.synced
 have h1now:=hO53.now
 have h1kept:=hO53.kept
 have h1acts:=hO53.acts
 have ap:OB V1.files m:=Ao h1files.2 hl_n2
 have aq:OB V1.synced m:=Ao h1synced.2 hl_n2
 have ar:OB V1.now m:=Ao h1now.2 hl_n2
 have au:OB V1.kept m:=Ao h1kept.2 hl_n2
 have ak:OB V1.acts m:=Ao h1acts.2 hl_n2
 have a7:OB V1.files h:=Ao h1files.2 hl_n10
 have a8:OB V1.synced h:=Ao h1synced.2 hl_n10
 have a9:OB V1.now h:=Ao h1now.2 hl_n10
 have ba:OB V1.kept h:=Ao h1kept.2 hl_n10
 have av:OB V1.acts h:=Ao h1acts.2 hl_n10
 have hFs:=RowsO.low hFs hsz_
 have h1files:=OG.low h1files hsz_
 have h1synced:=OG.low h1synced hsz_
 have h1now:=OG.low h1now hsz_
 have h1kept:=OG.low h1kept hsz_
 have h1acts:=OG.low h1acts hsz_
 have b9:Ak V1.acts V1.files:=AW h1acts.2 h1files.2 (by decide)
 have ca:Ak V1.acts V1.synced:=AW h1acts.2 h1synced.2 (by decide)
 have cb:Ak V1.acts V1.now:=AW h1acts.2 h1now.2 (by decide)
 have cc:Ak V1.acts V1.kept:=AW h1acts.2 h1kept.2 (by decide)
 have hO1:=(⟨⟨us,hFs,h1files⟩,h1synced,h1now,h1kept,h1acts⟩:RdO w.heap.size _ D V1)
 obtain⟨D1,dn,hD1⟩:∃x y,Bh D=(x,y):=⟨_,_,rfl⟩
 have hD1f:(Bh D).1=D1:=congrArg Prod.fst hD1
 have hO2:=hO1.armed
 rw[hD1f]at hO2
 have hok1:=KA hok
 rw[hD1f]at hok1
 have hL1:=KB hL
 rw[hD1f]at hL1
 have hfe:=Dd D
 rw[hD1f]at hfe
 obtain⟨hfe1,hfe2,hfe3,hfe4,hfe5,hfe6⟩:=hfe
 refine gS (Yk.callA1 Hn rfl ((Hl _ D V1 (RdO.at_ hO1 (P:=fun _=>True) (fun _ _=>trivial)) hL hD1).mono ?_))
 rintro e bb ⟨rfl,ah⟩
 refine⟨_,rfl,?_⟩
 have hFs:RowsO w.heap.size bb us (D.files.map Prod.fst):=(hFs.keep ah)
 have h1files:=h1files.keep ah
 have h1synced:=h1synced.keep ah
 have h1now:=h1now.keep ah
 have h1kept:=h1kept.keep ah
 have h1acts:=h1acts.keep ah
 have hO3:RdO w.heap.size bb D1 V1:=RdO.same (D:=D) ⟨⟨us,hFs,h1files⟩,h1synced,h1now,h1kept,h1acts⟩ hfe1 hfe2 hfe3 hfe4
 clear hFs h1files h1synced h1now h1kept h1acts
 have hus:=hO3
 obtain⟨us,hFs,h1files⟩:=hO3.files
 have h1synced:=hO3.synced
 have h1now:=hO3.now
 have h1kept:=hO3.kept
 have h1acts:=hO3.acts
 have hZ1:=b8.trans ah
 have c:=eb hZ1 c
 refine gS (Yk.extract (vs:= [.agg (rdkC (Ac D1,V1)).toArray, .bool (dn)]) rfl rfl (gS (Yk.extract (vs:= [.agg (rdkC (Ac D1,V1)).toArray, .bool (dn)]) rfl rfl (gS (Yk.storeSt AL (vr (PQ m 0) rfl) (vr (.agg (rdkC (Ac D1,V1)).toArray) rfl) c (AA (x:=(Ac D1,V1)) (RG.one (RG.ofOwn h1files)).2 (RG.one (RG.ofOwn h1synced)).2 (RG.one (RG.ofOwn h1now)).2 (RG.one (RG.ofOwn h1kept)).2 (RG.one (RG.ofOwn h1acts)).2) fun bc bd ae cz=> ?_)))))
 have hE:=hE.trans hZ1
 have hE:=Aa hE ae (Nat.le_trans (Nat.le_refl _) (by omega))
 have f:=eb hZ1 f
 have f:=kb ae f (by omega)
 have h1files:=OG.kept h1files ae ap
 have h1synced:=OG.kept h1synced ae aq
 have h1now:=OG.kept h1now ae ar
 have h1kept:=OG.kept h1kept ae au
 have h1acts:=OG.kept h1acts ae ak
 have hFs:RowsO w.heap.size bc us (D1.files.map Prod.fst):=RowsO.set hFs ae c (by decide)
 clear c
 have c:bc.heap[m]? =some (.cells (rdkC (Ac D1,V1)).toArray 31 (0,0)):=bd;clear bd
 have c0:=bl c
 refine cB (dn) rfl (fun aw=> ?_) fun aw=> ?_
 ·rw[show dn=true from aw]at hD1
  refine gS (Yk.loadSt AL rfl c (gS (Yk.storeSt AL (vr (PQ h 0) rfl) (vr (.agg (rdkC (Ac D1,V1)).toArray) rfl) f (AA (x:=(Ac D1,V1)) (RG.one (RG.ofOwn h1files)).2 (RG.one (RG.ofOwn h1synced)).2 (RG.one (RG.ofOwn h1now)).2 (RG.one (RG.ofOwn h1kept)).2 (RG.one (RG.ofOwn h1acts)).2) fun ax be af c1=> ?_)))
  have hE:=Aa hE af (Nat.le_trans aj (by omega))
  have h1files:=OG.kept h1files af a7
  have h1synced:=OG.kept h1synced af a8
  have h1now:=OG.kept h1now af a9
  have h1kept:=OG.kept h1kept af ba
  have h1acts:=OG.kept h1acts af av
  have hFs:RowsO w.heap.size ax us (D1.files.map Prod.fst):=RowsO.set hFs af f (by decide)
  have c:=kb af c (by omega)
  clear f
  have f:ax.heap[h]? =some (.cells (rdkC (Ac D1,V1)).toArray 31 (0,0)):=be;clear be
  have c2:=bl f
  refine B2 rfl (ResF.row rfl f (FH).choose_spec rfl (AN (Ay _) E0)) (vr (NI 9) rfl) ?_
  have hOe:RdO w.heap.size ax (D1) V1:=⟨⟨us,hFs,h1files⟩,h1synced,h1now,h1kept,h1acts⟩
  rw[show Ar D s=(D1,9)from by unfold Ar;rw[E2 ai hk];exact KE hD1]
  exact⟨V1,rfl,hOe.at_ hP,hE⟩
 have cd:=aw
 rw[show dn=false from cd]at hD1
 have hul:us.length=D1.files.length:=by rw[hFs.len,List.length_map]
 have hkn1:k<D1.files.length:=by rw[hfe1];exact hkn
 have al:D1.now.length+1<1099511627776:=by rw[hfe2];exact al
 have ha1:D1.acts.length+1<1099511627776:=by rw[hfe4];exact ha1
 refine gS (Yk.build3 (vr (St (s)) rfl) (vr (St (([]:List UInt8))) rfl) (vr (NI k) rfl) (fun w=>Ib s ([]:List UInt8) k w) (gS (Yk.alloc (cs:=(racC (⟨[],[],0⟩:AM)).toArray) Jg fun aa bf bg bh ab c3=> ?_)))
 have bi:=hE.size
 have c4:=AE (bl f) bg
 have c5:=AE (bl c) bg
 have bj:OB V1.files aa:=By h1files.2 (by omega)
 have bk:OB V1.synced aa:=By h1synced.2 (by omega)
 have bm:OB V1.now aa:=By h1now.2 (by omega)
 have bn:OB V1.kept aa:=By h1kept.2 (by omega)
 have ay:OB V1.acts aa:=By h1acts.2 (by omega)
 have hFs:RowsO w.heap.size bf us (D1.files.map Prod.fst):=(hFs.keep ab)
 have g:=bh;clear bh
 have c6:aa<bf.heap.size:=by omega
 refine gS (Yk.storeSt DX (vr (PQ aa 0) rfl) (vr (.agg (racC (⟨s,([]:List UInt8),k⟩:AM)).toArray) rfl) g (Fi (x:=(⟨s,([]:List UInt8),k⟩:AM))) fun bo bp ac c7=> ?_)
 have hE:=hE.trans ab
 have hE:=Aa hE ac (Nat.le_trans bi (by omega))
 have f:=eb ab f
 have f:=kb ac f (by omega)
 have h1files:=h1files.keep ab
 have h1files:=OG.kept h1files ac bj
 have h1synced:=h1synced.keep ab
 have h1synced:=OG.kept h1synced ac bk
 have h1now:=h1now.keep ab
 have h1now:=OG.kept h1now ac bm
 have h1kept:=h1kept.keep ab
 have h1kept:=OG.kept h1kept ac bn
 have h1acts:=h1acts.keep ab
 have h1acts:=OG.kept h1acts ac ay
 have hFs:RowsO w.heap.size bo us (D1.files.map Prod.fst):=RowsO.set hFs ac g (by decide)
 have c:=eb ab c
 have c:=kb ac c (by omega)
 clear g
 have g:bo.heap[aa]? =some (.cells (racC (⟨s,([]:List UInt8),k⟩:AM)).toArray 114 (0,0)):=bp;clear bp
 have c8:=bl g
 refine cT rfl (gS (Yk.fieldAt DK rfl (gS (Yk.storeC (i:=1) (v:=St (([]:List UInt8))) rfl rfl g (by rw[Fh];decide) Qr rfl rfl fun bq br ad c9=> ?_))))
 have hE:=Aa hE ad (Nat.le_trans bi (by omega))
 have f:=kb ad f (by omega)
 have h1files:=OG.kept h1files ad bj
 have h1synced:=OG.kept h1synced ad bk
 have h1now:=OG.kept h1now ad bm
 have h1kept:=OG.kept h1kept ad bn
 have h1acts:=OG.kept h1acts ad ay
 have hFs:RowsO w.heap.size bq us (D1.files.map Prod.fst):=RowsO.set hFs ad g (by decide)
 have c:=kb ad c (by omega)
 clear g
 have g:bq.heap[aa]? =some (.cells (racC (⟨s,([]:List UInt8),k⟩:AM)).toArray 114 (0,0)):=AF br (Sz (⟨s,([]:List UInt8),k⟩:AM) ([]:List UInt8));clear br
 have da:=bl g
 refine gS (Yk.fieldAt Ct rfl (gS (Yk.cell1 Bn rfl rfl (cellAt c (BU (Ac D1,V1))) (gS (Yk.loadSt DX rfl g ?_)))))
 have hnl2:(turnD D1.now ⟨s,[],k⟩).length<1099511627776:=Nat.lt_of_le_of_lt (Fo _ _) al
 have ce:=hE.size
 refine gS (Yk.callA2 KH rfl rfl ((FG _ V1.now (D1.now) (⟨s,([]:List UInt8),k⟩:AM) (RG.ofOwn h1now) hL1.now).mono ?_))
 rintro e cf ⟨n,rfl,j,p⟩
 refine⟨_,rfl,?_⟩
 have cg:OB n h:=Ao j.2 (bl f)
 have bs:OB n m:=Ao j.2 (bl c)
 have ch:Ak V1.acts n:=Cr h1acts.2 j.2
 have hFs:RowsO w.heap.size cf us (D1.files.map Prod.fst):=(hFs.keep p)
 have c:=eb p c
 refine gS (Yk.fieldAt Ct rfl (gS (Yk.storeC (i:=4) (v:=n) rfl rfl c (by rw[Ay];decide) Je (RG.one (RG.ofOwn j)).1 (RG.one (RG.ofOwn j)).2 fun bt bu q db=> ?_)))
 have hE:=hE.trans p
 have hE:=Aa hE q (Nat.le_trans (Nat.le_refl _) (by omega))
 have f:=eb p f
 have f:=kb q f (by omega)
 have h1files:=h1files.keep p
 have h1files:=OG.kept h1files q ap
 have h1synced:=h1synced.keep p
 have h1synced:=OG.kept h1synced q aq
 have h1now:=h1now.keep p
 have h1now:=OG.kept h1now q ar
 have h1kept:=h1kept.keep p
 have h1kept:=OG.kept h1kept q au
 have h1acts:=h1acts.keep p
 have h1acts:=OG.kept h1acts q ak
 have hFs:RowsO w.heap.size bt us (D1.files.map Prod.fst):=RowsO.set hFs q c (by decide)
 have g:=eb p g
 have g:=kb q g (by omega)
 have j:=OG.kept j q bs
 clear c
 have c:bt.heap[m]? =some (.cells (rdkC ((⟨true,((D1.quota:Nat):Int),(D1.files.map Prod.fst),(D1.files.map fun x=>((x.2:Nat):Int)),turnD (D1.now) (⟨s,([]:List UInt8),k⟩:AM),D1.kept,D1.acts,D1.refused,D1.arm,D1.down⟩,⟨V1.files,V1.synced,n,V1.kept,V1.acts⟩):Au)).toArray 31 (0,0)):=AF bu (HZ (Ac D1,V1) n (turnD (D1.now) (⟨s,([]:List UInt8),k⟩:AM)));clear bu
 have dc:=bl c
 refine gS (Yk.fieldAt H9 rfl (gS (Yk.cell1 Hj rfl rfl (cellAt c (Gx ((⟨true,((D1.quota:Nat):Int),(D1.files.map Prod.fst),(D1.files.map fun x=>((x.2:Nat):Int)),turnD (D1.now) (⟨s,([]:List UInt8),k⟩:AM),D1.kept,D1.acts,D1.refused,D1.arm,D1.down⟩,⟨V1.files,V1.synced,n,V1.kept,V1.acts⟩):Au))) (gS (Yk.loadSt DX rfl g (gS (Yk.lit1G (a:=(⟨s,([]:List UInt8),k⟩:AM)) (enc:=racC) (vr (.agg (racC (⟨s,([]:List UInt8),k⟩:AM)).toArray) rfl) (Fh _) KI fun ci bv bw o=> ?_)))))))
 have hFs:RowsO w.heap.size bv us (D1.files.map Prod.fst):=(hFs.keep o)
 have hE:=hE.trans o
 have h1acts:=h1acts.keep o
 refine gS (Yk.appendRG _ _ w.heap.size _ 40 Hj rd3_ig114.choose_spec.1 rd3_ig114.choose_spec.2 Hj (D1.acts) ([(⟨s,([]:List UInt8),k⟩:AM)]) (OG.of h1acts (vr V1.acts rfl)) (RG.of bw (vr ci rfl)) (fun _ _=>Fi) (by first | omega | (simp only[List.length_append,List.length_singleton,List.length_map,List.length_nil];omega)) (by first | omega | (simp only[List.length_append,List.length_singleton,List.length_map,List.length_nil];omega)) hE.size fun r bx ag l=> ?_)
 have l:Grew bv bx V1.acts r:=l
 have c:=eb o c
 have cj:OB r m:=Ax l ak (bl c)
 have f:=eb o f
 have ck:OB r h:=Ax l av (bl f)
 have hE:=Ag hE l h1acts.2 (Nat.le_refl _)
 have f:=Am f l av
 have h1files:=h1files.keep o
 have h1files:=Av h1files l b9
 have h1synced:=h1synced.keep o
 have h1synced:=Av h1synced l ca
 have h1now:=h1now.keep o
 have h1now:=Av h1now l cb
 have h1kept:=h1kept.keep o
 have h1kept:=Av h1kept l cc
 have hFs:RowsO w.heap.size bx us (D1.files.map Prod.fst):=RowsO.grew hFs l h1acts.2 (by decide)
 have g:=eb o g
 have g:=Am g l ay
 have j:=j.keep o
 have j:=Av j l ch
 have c:=Am c l ak
 clear bw
 clear h1acts
 refine gS (Yk.fieldAt H9 rfl (gS (Yk.storeC (i:=6) (v:=r) rfl rfl c (by rw[Ay];decide) Oq (RG.one (RG.ofOwn ag)).1 (RG.one (RG.ofOwn ag)).2 fun bz b0 t dd=> ?_)))
 have hE:=Aa hE t (Nat.le_trans (Nat.le_refl _) (by omega))
 have f:=kb t f (by omega)
 have h1files:=OG.kept h1files t ap
 have h1synced:=OG.kept h1synced t aq
 have h1now:=OG.kept h1now t ar
 have h1kept:=OG.kept h1kept t au
 have hFs:RowsO w.heap.size bz us (D1.files.map Prod.fst):=RowsO.set hFs t c (by decide)
 have g:=kb t g (by omega)
 have j:=OG.kept j t bs
 have ag:=OG.kept ag t cj
 clear c
 have c:bz.heap[m]? =some (.cells (rdkC ((⟨true,((D1.quota:Nat):Int),(D1.files.map Prod.fst),(D1.files.map fun x=>((x.2:Nat):Int)),turnD (D1.now) (⟨s,([]:List UInt8),k⟩:AM),D1.kept,(D1.acts)++ [(⟨s,([]:List UInt8),k⟩:AM)],D1.refused,D1.arm,D1.down⟩,⟨V1.files,V1.synced,n,V1.kept,r⟩):Au)).toArray 31 (0,0)):=AF b0 (H0 ((⟨true,((D1.quota:Nat):Int),(D1.files.map Prod.fst),(D1.files.map fun x=>((x.2:Nat):Int)),turnD (D1.now) (⟨s,([]:List UInt8),k⟩:AM),D1.kept,D1.acts,D1.refused,D1.arm,D1.down⟩,⟨V1.files,V1.synced,n,V1.kept,V1.acts⟩):Au) r ((D1.acts)++ [(⟨s,([]:List UInt8),k⟩:AM)]));clear b0
 have de:=bl c
 refine gS (Yk.loadSt AL rfl c (gS (Yk.storeSt AL (vr (PQ h 0) rfl) (vr (.agg (rdkC ((⟨true,((D1.quota:Nat):Int),(D1.files.map Prod.fst),(D1.files.map fun x=>((x.2:Nat):Int)),turnD (D1.now) (⟨s,([]:List UInt8),k⟩:AM),D1.kept,(D1.acts)++ [(⟨s,([]:List UInt8),k⟩:AM)],D1.refused,D1.arm,D1.down⟩,⟨V1.files,V1.synced,n,V1.kept,r⟩):Au)).toArray) rfl) f (AA (x:=((⟨true,((D1.quota:Nat):Int),(D1.files.map Prod.fst),(D1.files.map fun x=>((x.2:Nat):Int)),turnD (D1.now) (⟨s,([]:List UInt8),k⟩:AM),D1.kept,(D1.acts)++ [(⟨s,([]:List UInt8),k⟩:AM)],D1.refused,D1.arm,D1.down⟩,⟨V1.files,V1.synced,n,V1.kept,r⟩):Au)) (RG.one (RG.ofOwn h1files)).2 (RG.one (RG.ofOwn h1synced)).2 (RG.one (RG.ofOwn j)).2 (RG.one (RG.ofOwn h1kept)).2 (RG.one (RG.ofOwn ag)).2) fun az b1 u df=> ?_)))
 have hE:=Aa hE u (Nat.le_trans aj (by omega))
 have h1files:=OG.kept h1files u a7
 have h1synced:=OG.kept h1synced u a8
 have h1now:=OG.kept h1now u a9
 have h1kept:=OG.kept h1kept u ba
 have hFs:RowsO w.heap.size az us (D1.files.map Prod.fst):=RowsO.set hFs u f (by decide)
 have g:=kb u g (by omega)
 have j:=OG.kept j u cg
 have ag:=OG.kept ag u ck
 have c:=kb u c (by omega)
 clear f
 have f:az.heap[h]? =some (.cells (rdkC ((⟨true,((D1.quota:Nat):Int),(D1.files.map Prod.fst),(D1.files.map fun x=>((x.2:Nat):Int)),turnD (D1.now) (⟨s,([]:List UInt8),k⟩:AM),D1.kept,(D1.acts)++ [(⟨s,([]:List UInt8),k⟩:AM)],D1.refused,D1.arm,D1.down⟩,⟨V1.files,V1.synced,n,V1.kept,r⟩):Au)).toArray 31 (0,0)):=b1;clear b1
 have dh:=bl f
 refine B2 rfl (ResF.row rfl f (FH).choose_spec rfl (AN (Ay _) E0)) (vr (NI 0) rfl) ?_
 have hOe:RdO w.heap.size az (turnedD D1 ⟨s,[],k⟩) ⟨V1.files,V1.synced,n,V1.kept,r⟩:=⟨⟨us,hFs,h1files⟩,h1synced,OG.low j ce,h1kept,ag⟩
 rw[show Ar D s=(_,0)from by unfold Ar;rw[E2 ai hk];exact LS hD1]
 exact⟨_,rfl,hOe.at_ hP,hE⟩

theorem MT(w:World)(q:Int)(s:List UInt8)(vb:Value):
  Calls Tryz.prog 26 #[.agg (rdkC (AK q)).toArray,St s,vb] w fun e w' =>e = .returned (.tuple #[.agg (rdkC (AK q)).toArray,NI 1])∧Ext w w' :=by
 refine gG (args:= [.agg (rdkC (AK q)).toArray,St (s),vb]) Tryz.func26 rfl 89 rfl rfl ?_
 have hE:=Ext.refl w
 refine gS (Yk.box (cs:=(rdkC (AK q):List Value).toArray) (vr (.agg (rdkC (AK q)).toArray) rfl) fun n o y i p z=> ?_)
 have c:=i;clear i
 have aa:n<o.heap.size:=by omega
 refine gS (Yk.alloc (cs:=(rdkC ((⟨false,0,[],[],[],[],[],0,0,false⟩,⟨.slice none 0 0, .slice none 0 0, .slice none 0 0, .slice none 0 0, .slice none 0 0⟩):Au)).toArray) Ku fun g r t j k ab=> ?_)
 have hE:=hE.trans p
 have u:=hE.size
 have ac:=AE (bl c) t
 have f:=j;clear j
 have ad:g<r.heap.size:=by omega
 have c:=eb k c
 refine gS (Yk.loadSt AL rfl c (gS (Yk.callA3 Kv rfl rfl rfl ((FI _ q s s).mono ?_))))
 rintro e ae ⟨rfl,h⟩
 refine⟨_,rfl,?_⟩
 have c:=eb h c
 have f:=eb h f
 refine gS (Yk.eqI (a:=(1:Nat)) (b:=(0:Nat)) rfl rfl (AZ _ _ _ _) (kT (by decide) (cT rfl (gS (Yk.loadSt AL rfl c (gS (Yk.storeSt AL (vr (PQ g 0) rfl) (vr (.agg (rdkC (AK q)).toArray) rfl) f (AA (x:=(AK q)) rfl rfl rfl rfl rfl) fun v l m af=> ?_)))))))
 have hE:=hE.trans (k.trans h)
 have hE:=Aa hE m (Nat.le_trans u (by omega))
 have c:=kb m c (by omega)
 clear f
 have f:v.heap[g]? =some (.cells (rdkC (AK q)).toArray 31 (0,0)):=l;clear l
 have ag:=bl f
 refine B2 rfl (ResF.row rfl f (FH).choose_spec rfl (AN (Ay _) E0)) (vr (NI 1) rfl) ?_
 exact⟨rfl,hE⟩

theorem Qs(w:World)(q:Int)(s t:List UInt8)(b:Bool):
  Calls Tryz.prog 51 #[.agg (rdkC (AK q)).toArray,St s,St t, .bool b] w fun e w' =>e = .returned (.tuple #[.agg (rdkC (AK q)).toArray,NI 1])∧Ext w w' :=by
 refine gG (args:= [.agg (rdkC (AK q)).toArray,St (s),St (t), .bool (b)]) Tryz.func51 rfl 59 rfl rfl ?_
 have hE:=Ext.refl w
 refine gS (Yk.box (cs:=(rdkC (AK q):List Value).toArray) (vr (.agg (rdkC (AK q)).toArray) rfl) fun u v ae k y af=> ?_)
 have c:=k;clear k
 have ag:u<v.heap.size:=by omega
 refine gS (Yk.alloc (cs:=(rdkC ((⟨false,0,[],[],[],[],[],0,0,false⟩,⟨.slice none 0 0, .slice none 0 0, .slice none 0 0, .slice none 0 0, .slice none 0 0⟩):Au)).toArray) Ku fun g z aa l h ah=> ?_)
 have hE:=hE.trans y
 have m:=hE.size
 have ai:=AE (bl c) aa
 have f:=l;clear l
 have aj:g<z.heap.size:=by omega
 refine cB (b) rfl (fun ab=> ?_) fun ab=> ?_
 ·have c:=eb h c
  refine gS (Yk.loadSt AL rfl c (gS (Yk.callA3 Kv rfl rfl rfl ((FI _ q s s).mono ?_))))
  rintro e ak ⟨rfl,i⟩
  refine⟨_,rfl,?_⟩
  have c:=eb i c
  have f:=eb i f
  refine gS (Yk.eqI (a:=(1:Nat)) (b:=(0:Nat)) rfl rfl (AZ _ _ _ _) (kT (by decide) (cT rfl (gS (Yk.loadSt AL rfl c (gS (Yk.storeSt AL (vr (PQ g 0) rfl) (vr (.agg (rdkC (AK q)).toArray) rfl) f (AA (x:=(AK q)) rfl rfl rfl rfl rfl) fun ac n o al=> ?_)))))))
  have hE:=hE.trans (h.trans i)
  have hE:=Aa hE o (Nat.le_trans m (by omega))
  have c:=kb o c (by omega)
  clear f
  have f:ac.heap[g]? =some (.cells (rdkC (AK q)).toArray 31 (0,0)):=n;clear n
  have am:=bl f
  refine B2 rfl (ResF.row rfl f (FH).choose_spec rfl (AN (Ay _) E0)) (vr (NI 1) rfl) ?_
  exact⟨rfl,hE⟩
 have c:=eb h c
 refine gS (Yk.loadSt AL rfl c (gS (Yk.callA3 Kv rfl rfl rfl ((FI _ q s t).mono ?_))))
 rintro e an ⟨rfl,j⟩
 refine⟨_,rfl,?_⟩
 have c:=eb j c
 have f:=eb j f
 refine gS (Yk.eqI (a:=(1:Nat)) (b:=(0:Nat)) rfl rfl (AZ _ _ _ _) (kT (by decide) (cT rfl (gS (Yk.loadSt AL rfl c (gS (Yk.storeSt AL (vr (PQ g 0) rfl) (vr (.agg (rdkC (AK q)).toArray) rfl) f (AA (x:=(AK q)) rfl rfl rfl rfl rfl) fun ad p r ao=> ?_)))))))
 have hE:=hE.trans (h.trans j)
 have hE:=Aa hE r (Nat.le_trans m (by omega))
 have c:=kb r c (by omega)
 clear f
 have f:ad.heap[g]? =some (.cells (rdkC (AK q)).toArray 31 (0,0)):=p;clear p
 have ap:=bl f
 refine B2 rfl (ResF.row rfl f (FH).choose_spec rfl (AN (Ay _) E0)) (vr (NI 1) rfl) ?_
 exact⟨rfl,hE⟩
end Go.Proofs.YtejpjjhkjdpeaaaGreatDoor
