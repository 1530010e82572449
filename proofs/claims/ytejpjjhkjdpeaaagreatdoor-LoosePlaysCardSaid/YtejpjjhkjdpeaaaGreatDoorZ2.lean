/- Part 2 of what stands behind these statements: laws and walks of the functions that are reached. Conditions: those that each theorem names. -/
import Derived.Test.YtejpjjhkjdpeaaaGreatDoorZ1
set_option linter.unusedVariables false
set_option linter.unusedSimpArgs false
namespace Go.Proofs.YtejpjjhkjdpeaaaGreatDoor
open Go.RowKit
abbrev Ba:=List (List UInt8 × Nat)
def AD:Ba→List UInt8→Option Nat
  | [],_=>none
  | e :: r,s=>if e.1=s then some e.2 else AD r s
theorem B7(e:List UInt8 × Nat)(r:Ba)(s:List UInt8):AD (e :: r) s=if e.1=s then some e.2 else AD r s:=rfl
def woD(l:Ba)(s:List UInt8):Ba:=l.filter fun e=> !decide (e.1=s)
def DQ(l:Ba)(s:List UInt8)(k:Nat):Ba:=l.takeWhile (fun e=>Op.bytesLess e.1 s)++(s,k) :: l.dropWhile (fun e=>Op.bytesLess e.1 s)
structure AM where
  frm:List UInt8
  to:List UInt8
  file:Nat
def turnD(l:Ba)(a:AM):Ba:=if a.to.length=0 then woD l a.frm else DQ (woD (woD l a.frm) a.to) a.to a.file
def Dj(l:Ba):Prop:=l.Pairwise fun a b=>Op.bytesLess a.1 b.1=true
theorem JQ{a b c:List UInt8}(h:Op.bytesLess a b=true)(k:Op.bytesLess b c=true):Op.bytesLess a c=true:=by
  rw[bytesLess_eq,decide_eq_true_eq]at *
  exact List.lt_trans h k
theorem EW(a:List UInt8):Op.bytesLess a a=false:=by
  rw[bytesLess_eq]
  exact decide_eq_false (List.lt_irrefl a)
theorem O0{a b:List UInt8}(h:Op.bytesLess a b=false)(hne:b≠a):Op.bytesLess b a=true:=by
  rw[bytesLess_eq,decide_eq_false_iff_not]at h
  rw[bytesLess_eq,decide_eq_true_eq]
  have h:b≤a:=h
  rcases List.le_total a b with h2 | h2
  · exact absurd (List.le_antisymm h h2) hne
  · exact Classical.byContradiction fun hn=>hne (List.le_antisymm h hn)
theorem DU{l:Ba}{s:List UInt8}:AD l s=none↔∀e∈l,e.1≠s:=by
  induction l with
  | nil=>simp[AD]
  | cons e r ih=>
    rw[B7]
    by_cases h:e.1=s
    · simp[h]
    · simp[h,ih]
theorem ED{l:Ba}{s:List UInt8}{k:Nat}(h:AD l s=some k):(s,k)∈l:=by
  induction l with
  | nil=>cases h
  | cons e r ih=>
    rw[B7]at h
    split at h
    · rename_i he
      cases h
      rw[←he]
      exact List.mem_cons_self
    · exact List.mem_cons_of_mem _ (ih h)
theorem Im{l:Ba}(hs:Dj l){e:List UInt8 × Nat}(h:e∈l):AD l e.1=some e.2:=by
  induction l with
  | nil=>cases h
  | cons x r ih=>
    obtain⟨h1,h2⟩:=List.pairwise_cons.1 hs
    rw[B7]
    rcases List.mem_cons.1 h with rfl | h
    · exact if_pos rfl
    · have:=h1 e h
      rw[if_neg (fun he=>by rw[he,EW]at this;cases this)]
      exact ih h2 h
theorem EE{l r:Ba}{s:List UInt8}:AD (l++r) s=(AD l s).or (AD r s):=by
  induction l with
  | nil=>rfl
  | cons e l ih=>
    rw[List.cons_append,B7,B7]
    by_cases h:e.1=s
    · rw[if_pos h,if_pos h];rfl
    · rw[if_neg h,if_neg h];exact ih
theorem GG(l:Ba)(s t:List UInt8):AD (woD l s) t=if t=s then none else AD l t:=by
  induction l with
  | nil=>simp[woD,AD]
  | cons e r ih=>
    unfold woD at ih ⊢
    by_cases h:e.1=s
    · rw[List.filter_cons_of_neg (by simp[h]),ih]
      split
      · rfl
      · rename_i ht
        rw[B7,if_neg (fun he=>ht (he.symm.trans h))]
    · rw[List.filter_cons_of_pos (by simp[h])]
      rw[B7,B7]
      by_cases he:e.1=t
      · rw[if_pos he,if_pos he,if_neg (fun ht=>h (he.trans ht))]
      · rw[if_neg he,if_neg he]
        exact ih
theorem O2{l:Ba}{s:List UInt8}(k:Nat)(h:AD l s=none)(t:List UInt8):AD (DQ l s k) t=if t=s then some k else AD l t:=by
  have hl:l=l.takeWhile (fun e=>Op.bytesLess e.1 s)++l.dropWhile (fun e=>Op.bytesLess e.1 s):=(List.takeWhile_append_dropWhile).symm
  have hn:=h
  rw[hl,EE]at hn
  unfold DQ
  rw[EE]
  rw[B7]
  simp only
  by_cases ht:t=s
  · subst ht
    rw[if_pos rfl,if_pos rfl]
    cases h2:AD (l.takeWhile fun e=>Op.bytesLess e.1 t) t with
    | none=>rfl
    | some x=>rw[h2]at hn;cases hn
  · rw[if_neg (fun e=>ht e.symm),if_neg ht]
    conv=>rhs;rw[hl,EE]
theorem In{l:Ba}(h:Dj l)(s:List UInt8):Dj (woD l s):=List.Pairwise.sublist (List.filter_sublist) h
theorem QZ{l:Ba}{s:List UInt8}(hs:Dj l)(h:AD l s=none):∀e∈l.dropWhile (fun e=>Op.bytesLess e.1 s),Op.bytesLess s e.1=true:=by
  induction l with
  | nil=>intro e he;cases he
  | cons x r ih=>
    obtain⟨h1,h2⟩:=List.pairwise_cons.1 hs
    have h3:=DU.1 h
    intro e he
    by_cases hx:Op.bytesLess x.1 s=true
    · rw[List.dropWhile_cons,if_pos hx]at he
      exact ih h2 (DU.2 fun y hy=>h3 y (List.mem_cons_of_mem _ hy)) e he
    · rw[List.dropWhile_cons,if_neg hx]at he
      have hxs:=O0 (Bool.eq_false_iff.2 hx) (fun q=>h3 x List.mem_cons_self q.symm)
      rcases List.mem_cons.1 he with rfl | he
      · exact hxs
      · exact JQ hxs (h1 e he)
theorem Q0{l:Ba}{s:List UInt8}:∀e∈l.takeWhile (fun e=>Op.bytesLess e.1 s),Op.bytesLess e.1 s=true:=by
  induction l with
  | nil=>intro e he;cases he
  | cons x r ih=>
    intro e he
    by_cases hx:Op.bytesLess x.1 s=true
    · rw[List.takeWhile_cons,if_pos hx]at he
      rcases List.mem_cons.1 he with rfl | he
      · exact hx
      · exact ih e he
    · rw[List.takeWhile_cons,if_neg hx]at he
      cases he
theorem O3{l:Ba}{s:List UInt8}(k:Nat)(hs:Dj l)(h:AD l s=none):Dj (DQ l s k):=by
  unfold DQ Dj
  have h1:=QZ hs h
  have h2:=Q0 (l:=l) (s:=s)
  rw[List.pairwise_append]
  refine⟨hs.sublist (List.takeWhile_sublist _),List.pairwise_cons.2 ⟨fun e he=>h1 e he,hs.sublist (List.dropWhile_sublist _)⟩,fun a ha b hb=> ?_⟩
  rcases List.mem_cons.1 hb with rfl | hb
  · exact h2 a ha
  · exact JQ (h2 a ha) (h1 b hb)
theorem JR(l:Ba)(a b:List UInt8):AD (woD (woD l a) b) b=none:=by rw[GG,if_pos rfl]
theorem look_turn(l:Ba)(a:AM)(t:List UInt8):AD (turnD l a) t=if a.to.length=0 then(if t=a.frm then none else AD l t)else if t=a.to then some a.file else if t=a.frm then none else AD l t:=by
  unfold turnD
  by_cases h:a.to.length=0
  · rw[if_pos h,if_pos h,GG]
  · rw[if_neg h,if_neg h,O2 _ (JR _ _ _)]
    by_cases ht:t=a.to
    · rw[if_pos ht,if_pos ht]
    · rw[if_neg ht,if_neg ht,GG,if_neg ht,GG]
theorem M7{l:Ba}(h:Dj l)(a:AM):Dj (turnD l a):=by
  unfold turnD
  split
  · exact In h _
  · exact O3 _ (In (In h _) _) (JR _ _ _)
theorem DJ(l:Ba)(s:List UInt8):(woD l s).length≤l.length:=List.length_filter_le _ _
theorem Q1(l:Ba)(s:List UInt8)(k:Nat):(DQ l s k).length=l.length+1:=by
  unfold DQ
  have h:(l.takeWhile (fun e=>Op.bytesLess e.1 s)++l.dropWhile (fun e=>Op.bytesLess e.1 s)).length=l.length:=by rw[List.takeWhile_append_dropWhile]
  rw[List.length_append]at h
  rw[List.length_append,List.length_cons]
  omega
theorem Fo(l:Ba)(a:AM):(turnD l a).length≤l.length+1:=by
  have h1:=DJ l a.frm
  have h2:=DJ (woD l a.frm) a.to
  unfold turnD
  split
  · omega
  · rw[Q1];omega
theorem F7{l:Ba}{s:List UInt8}{e:List UInt8 × Nat}(h:e∈woD l s):e∈l:=(List.mem_filter.1 h).1
theorem Q2{l:Ba}{s:List UInt8}{k:Nat}{e:List UInt8 × Nat}(h:e∈DQ l s k):e∈l∨e=(s,k):=by
  unfold DQ at h
  rcases List.mem_append.1 h with h | h
  · exact .inl ((List.takeWhile_sublist _).subset h)
  · rcases List.mem_cons.1 h with h | h
    · exact .inr h
    · exact .inl ((List.dropWhile_sublist _).subset h)
theorem JS{l:Ba}{a:AM}{e:List UInt8 × Nat}(h:e∈turnD l a):e∈l∨(a.to.length≠0∧e=(a.to,a.file)):=by
  unfold turnD at h
  split at h
  · exact .inl (F7 h)
  · rename_i hn
    rcases Q2 h with h | h
    · exact .inl (F7 (F7 h))
    · exact .inr ⟨hn,h⟩
structure An where
  quota:Nat
  files:List (List UInt8 × Nat)
  now:Ba
  kept:Ba
  acts:List AM
  refused:Nat
  arm:Nat
  down:Bool
def Bu(s:List UInt8):Bool:=decide (1≤s.length)&&decide (s.length≤80)
def A6(d:An)(a b:List UInt8):Nat:=if d.down=true then 9 else if Bu a=true∧Bu b=true then 0 else 10
def AJ(d:An)(k:Nat):List UInt8 × Nat:=d.files.getD k ([],0)
def usedD(d:An):Nat:=(d.now.map fun e=>(AJ d e.2).1.length).sum
def Bh(d:An):An × Bool:=if d.arm=0 then(d,false)else({ d with arm:=d.arm-1,down:=decide (d.arm-1=0) },decide (d.arm-1=0))
def turnedD(d:An)(a:AM):An:= { d with now:=turnD d.now a,acts:=d.acts++ [a] }
def BN(d:An)(s b:List UInt8):An:=
  match AD d.now s with
  | some k=> { d with files:=d.files.set k ((AJ d k).1++b,(AJ d k).2) }
  | none=> { turnedD d ⟨[],s,d.files.length⟩with files:=d.files++ [(b,0)] }
def Af(d:An)(s b:List UInt8):An × Nat:=
  if A6 d s s≠0 then(d,A6 d s s)
  else if d.quota<usedD d+b.length then({ d with refused:=d.refused+1 },8)
  else if(Bh d).2=true then((Bh d).1,9)else(BN (Bh d).1 s b,0)
def C8(d:An)(a b:List UInt8):Except Nat Nat:=if A6 d a b≠0 then .error (A6 d a b)else match AD d.now a with | some k=> .ok k | none=> .error 4
def CR(d:An)(f:An→An):An × Nat:=if(Bh d).2=true then((Bh d).1,9)else(f (Bh d).1,0)
def Aw(d:An)(s:List UInt8):An × Nat:=
  match C8 d s s with
  | .error e=>(d,e)
  | .ok k=>CR d fun d=> { d with files:=d.files.set k ((AJ d k).1,(AJ d k).1.length),kept:=d.now,acts:= [] }
def Ar(d:An)(s:List UInt8):An × Nat:=
  match C8 d s s with
  | .error e=>(d,e)
  | .ok k=>CR d fun d=>turnedD d ⟨s,[],k⟩
def Az(d:An)(s:List UInt8):List UInt8 × Nat:=
  match C8 d s s with
  | .error e=>([],e)
  | .ok k=>((AJ d k).1,0)
def As(d:An):List (List UInt8):=if d.down=true then []else d.now.map Prod.fst
def Bd(l:List Int)(i n:Nat):Nat:=if i<l.length then(Int.emod (l.getD i 0) ((n:Nat):Int)).toNat else 0
def Aj(d:An)(l:List Int):Ba:=(d.acts.take (Bd l 0 (d.acts.length+1))).foldl turnD d.kept
def CM(d:An)(l:List Int)(i:Nat)(k:Nat):List UInt8 × Nat:=
  let n:=(AJ d k).2+Bd l (i+1) ((AJ d k).1.length-(AJ d k).2+1)
  ((AJ d k).1.take n,n)
def Dp(l:Ba):Ba:=l.mapIdx fun i e=>(e.1,i)
def BS(d:An)(l:List Int):An:=
  { quota:=d.quota,files:=(Aj d l).mapIdx (fun i e=>CM d l i e.2),now:=Dp (Aj d l),kept:=Dp (Aj d l),acts:= [],refused:=d.refused,arm:=0,down:=false }
open Go.RowKit
open Go.WideMaps (KeyLaw)
structure KL (P : Program) (k : TypeId) (OK : Value → Prop) : Prop where
  check:∀(w:World) (em:Bool) {v:Value},OK v→(Instr.checkKey em 10000 k v).run P w = .ok () w
  find:∀(w:World) {x:Value},OK x→∀es:List MapEntry,(∀e∈es,OK e.key) →
    ((Instr.findKey k x es).run P w = .ok none w∧∀e∈es,e.key≠x)∨∃j e,(Instr.findKey k x es).run P w = .ok (some (j,e.val)) w∧es[j]? =some e∧e.key=x
  stays:∀(w:World) {v:Value},OK v→(Instr.keyThatStays v v).run P w = .ok v w
theorem KL.ofKey{P:Program}{k:TypeId}{d:TypeDesc}(hd:P.underlying k=some d):KL P k (MapKept.IsKey d):=
  ⟨fun w em _ h=>MapKept.run_checkKey hd h em 9999,fun w x h es he=>by
    rcases MapKept.findNow_spec h es 0 he with ⟨h1,h2⟩ | ⟨j,e,h1,h2,h3⟩
    · exact .inl ⟨MapKept.run_findKey hd h1,h2⟩
    · rw[Nat.zero_add]at h1
      exact .inr ⟨j,e,MapKept.run_findKey hd h1,h2,h3⟩,fun w _ h=>MapKept.run_keyThatStays h⟩
section
variable {α β : Type} (ek : α → Value) (ev : β → Value) (D : α → Prop)
structure SI (G : α → Option β) (es : List MapEntry) : Prop where
  keys:(es.map (·.key)).Nodup
  ent:∀e∈es,∃a y,D a∧e.key=ek a∧e.val=ev y∧G a=some y
  all:∀a y,G a=some y→D a∧∃e∈es,e.key=ek a
def MapF(w:World)(b:Nat)(G:α→Option β):Prop:=∃es clock,w.heap[b]? =some (.map es.toArray clock)∧SI ek ev D G es∧MapKept.Stamped es.toArray clock
end
theorem K8{es es' :List MapEntry}{c:Nat}(hs:es'.Sublist es)(h:MapKept.Stamped es.toArray c):MapKept.Stamped es'.toArray c:=by
  obtain⟨h1,h2,h3⟩:=h
  exact⟨fun x hx=>h1 x (hs.subset hx),(hs.map _).nodup h2,(hs.map _).nodup h3⟩
def updM{α β:Type}[DecidableEq α](G:α→Option β)(a:α)(y:Option β)(c:α):Option β:=if c=a then y else G c
section
variable {α β : Type} {ek : α → Value} {ev : β → Value} {D : α → Prop} {P : Program} {w w' : World} {b : Nat} {G : α → Option β}
theorem MapF.keep(h:MapF ek ev D w b G)(k:Ext w w'):MapF ek ev D w' b G:=by
  obtain⟨es,c,h2,h3⟩:=h
  exact⟨es,c,Ext.blk' k h2,h3⟩
theorem MapF.lt(h:MapF ek ev D w b G):b<w.heap.size:=by
  obtain⟨es,c,h2,h3⟩:=h
  exact(Array.getElem?_eq_some_iff.1 h2).1
theorem MapF.other{r:Option Nat}(h:MapF ek ev D w b G)(k:w.grownBy w' r)(hr:r≠some b):MapF ek ev D w' b G:=by
  have hl:=h.lt
  obtain⟨es,c,h2,h3⟩:=h
  exact⟨es,c,(k.block b hl (fun e=>hr e.symm)).trans h2,h3⟩
theorem MapF.made(ek:α→Value)(ev:β→Value)(D:α→Prop)(w:World):MapF ek ev D (w.alloc (.map #[] 0)) w.heap.size (fun _=>none):=
  ⟨[],0,heap_alloc_new w _,⟨by simp,by simp,fun _ _ h=>by cases h⟩,MapKept.stamped_empty 0⟩
section
variable {t K E : TypeId} {OK : Value → Prop} (L : KL P K OK) (hD : ∀ a, D a → OK (ek a)) (hi : ∀ a c, ek a = ek c → a = c) (ht : P.underlying t = some (.map K E))
include L hD hi ht
theorem MapF.look{z:Value}(hz:∀u:World,(zeroValue E).run P u = .ok z u)(h:MapF ek ev D w b G){a:α}(ha:D a)(ok:Bool):
    (Instr.lookup t (.map (some b)) (ek a) ok).run P w = .ok (if ok then .tuple #[(G a).elim z ev, .bool (G a).isSome]else(G a).elim z ev) w:=by
  obtain⟨es,c,hb,H,hS⟩:=h
  have hkeys:∀e∈es,OK e.key:=fun e he=>by
    obtain⟨q,y,k1,k2,-⟩:=H.ent e he
    rw[k2]
    exact hD q k1
  rcases L.find w (hD a ha) es hkeys with ⟨f1,f2⟩ | ⟨j,f,f1,f2,f3⟩
  · have hG:G a=none:=by
      cases hG:G a with
      | none=>rfl
      | some y=>
        obtain⟨-,e,he,hek⟩:=H.all a y hG
        exact absurd hek (f2 e he)
    cases ok <;> simp[Instr.lookup,run_underlying ht,MapKept.run_getObj_map hb,L.check w _ (hD a ha),f1,hz,Result.andThen,hG]
  · obtain⟨q,y,k1,k2,k3,k4⟩:=H.ent f (List.mem_of_getElem? f2)
    have:q=a:=hi _ _ (k2.symm.trans f3)
    subst this
    cases ok <;> simp[Instr.lookup,run_underlying ht,MapKept.run_getObj_map hb,L.check w _ (hD q ha),f1,Result.andThen,k4,k3]
variable [DecidableEq α]
omit hi in
theorem MapF.put(h:MapF ek ev D w b G){a:α}(ha:D a)(y:β):
    ∃w',(Instr.mapUpdate t (.map (some b)) (ek a) (ev y)).run P w = .ok () w' ∧MapF ek ev D w' b (updM G a (some y))∧w.grownBy w' (some b)∧w'.heap.size=w.heap.size:=by
  obtain⟨es,c,hb,H,hS⟩:=h
  have hkeys:∀e∈es,OK e.key:=fun e he=>by
    obtain⟨q,y,k1,k2,-⟩:=H.ent e he
    rw[k2]
    exact hD q k1
  have hblt:b<w.heap.size:=(Array.getElem?_eq_some_iff.1 hb).1
  have hgr:∀o,w.grownBy { w with heap:=w.heap.setIfInBounds b o } (some b):=fun o=>⟨rfl,rfl,rfl,by simp,fun i _ hi=>by simp only[Array.getElem?_setIfInBounds];rw[if_neg (fun e=>hi (by rw[e]))]⟩
  have hnew:∀o,({ w with heap:=w.heap.setIfInBounds b o } :World).heap[b]? =some o:=fun o=>by simp[hblt]
  rcases L.find w (hD a ha) es hkeys with ⟨f1,f2⟩ | ⟨j,g,f1,f2,f3⟩
  · have hnone:∀x,G a≠some x:=fun x hx=>by
      obtain⟨-,e,he,hek⟩:=H.all a x hx
      exact f2 e he hek
    refine⟨{ w with heap:=w.heap.setIfInBounds b (.map (es++ [({ key:=ek a,val:=ev y,born:=c } :MapEntry)]).toArray (c+1)) },?_,⟨_,_,hnew _,⟨?_,?_,?_⟩,by have:=MapKept.stamped_push hS (key:=ek a) (val:=ev y) (fun x hx=>f2 x (by simpa using hx));simpa using this⟩,hgr _,by simp⟩
    · simp[Instr.mapUpdate,run_underlying ht,MapKept.run_getObj_map hb,L.check w false (hD a ha),f1,MapKept.run_setObj_map _ hb,Result.andThen]
    · simp only[List.map_append,List.map_cons,List.map_nil]
      refine List.nodup_append.2 ⟨H.keys,by simp,fun x hx z hz e=> ?_⟩
      obtain⟨f,he1,rfl⟩:=List.mem_map.1 hx
      simp at hz
      exact f2 f he1 (e.trans hz)
    · intro e he
      rcases List.mem_append.1 he with h1 | h1
      · obtain⟨q,z,k1,k2,k3,k4⟩:=H.ent e h1
        refine⟨q,z,k1,k2,k3,?_⟩
        unfold updM
        rw[if_neg (fun f=>f2 e h1 (by rw[k2,f]))]
        exact k4
      · rw[List.mem_singleton.1 h1]
        exact⟨a,y,ha,rfl,rfl,by unfold updM;rw[if_pos rfl]⟩
    · intro q z hq
      unfold updM at hq
      split at hq
      · rename_i f
        subst f
        exact⟨ha,_,List.mem_append_right _ (List.mem_singleton.2 rfl),rfl⟩
      · obtain⟨k1,e,he,hek⟩:=H.all q z hq
        exact⟨k1,e,List.mem_append_left _ he,hek⟩
  · obtain⟨q0,y0,k1,k2,k3,k4⟩:=H.ent g (List.mem_of_getElem? f2)
    have hjl:j<es.length:=(List.getElem?_eq_some_iff.1 f2).1
    have hkeq:(es.modify j fun e=> { e with key:=ek a,val:=ev y }).map (·.key)=es.map (·.key):=by
      rw[Go.ChangeMaps.modify_eq_set _ _ _ _ f2,List.map_set]
      exact Go.WideElems.set_self _ _ _ (by rw[List.getElem?_map,f2];simp[f3])
    have hj:es.toArray[j]? =some g:=by simpa using f2
    refine⟨{ w with heap:=w.heap.setIfInBounds b (.map (es.modify j fun e=> { e with key:=ek a,val:=ev y }).toArray c) },?_,⟨_,_,hnew _,⟨?_,?_,?_⟩,by have:=MapKept.stamped_modify hS j (fun e=> { e with key:=ek a,val:=ev y }) (fun _ _=>rfl) (fun e _ he=>by rw[hj]at he;cases he;exact f3.symm);rwa [List.modify_toArray]at this⟩,hgr _,by simp⟩
    · simp[Instr.mapUpdate,run_underlying ht,MapKept.run_getObj_map hb,L.check w false (hD a ha),f1,f2,f3,L.stays w (hD a ha),MapKept.run_setObj_map _ hb,Result.andThen]
    · rw[hkeq]
      exact H.keys
    · intro e he
      rw[Go.ChangeMaps.modify_eq_set _ _ _ _ f2]at he
      obtain⟨i,hil,hie⟩:=List.mem_iff_getElem.1 he
      rw[List.getElem_set]at hie
      split at hie
      · subst hie
        exact⟨a,y,ha,rfl,rfl,by unfold updM;rw[if_pos rfl]⟩
      · rename_i hne
        have hil2:i<es.length:=by simpa using hil
        obtain⟨q,z,m1,m2,m3,m4⟩:=H.ent e (hie▸List.getElem_mem hil2)
        refine⟨q,z,m1,m2,m3,?_⟩
        unfold updM
        rw[if_neg ?_]
        · exact m4
        · intro f
          subst f
          apply hne
          have hn:=H.keys
          have k:(es.map (·.key))[j]'(by simpa using hjl)=(es.map (·.key))[i]'(by simpa using hil2):=by
            simp only[List.getElem_map]
            rw[hie,m2,←f3]
            exact congrArg MapEntry.key (List.getElem?_eq_some_iff.1 f2).2
          exact(List.getElem_inj hn).1 k
    · intro q z hq
      have hmem:∀x,x∈es.map (·.key)→∃e∈(es.modify j fun e=> { e with key:=ek a,val:=ev y }),e.key=x:=fun x hx=>by
        rw[←hkeq]at hx
        obtain⟨e,he,rfl⟩:=List.mem_map.1 hx
        exact⟨e,he,rfl⟩
      unfold updM at hq
      split at hq
      · rename_i f
        subst f
        exact⟨ha,hmem _ (List.mem_map.2 ⟨g,List.mem_of_getElem? f2,f3⟩)⟩
      · obtain⟨k1,e,he,hek⟩:=H.all q z hq
        exact⟨k1,hmem _ (List.mem_map.2 ⟨e,he,hek⟩)⟩
theorem MapF.del{ty:TypeId}(h:MapF ek ev D w b G){a:α}(ha:D a):
    ∃w',(Builtin.delete_ #[t,K] ty #[.map (some b),ek a]).run P w = .ok (.tuple #[]) w' ∧MapF ek ev D w' b (updM G a none)∧w.grownBy w' (some b)∧w'.heap.size=w.heap.size:=by
  obtain⟨es,c,hb,H,hS⟩:=h
  have hkeys:∀e∈es,OK e.key:=fun e he=>by
    obtain⟨q,y,k1,k2,-⟩:=H.ent e he
    rw[k2]
    exact hD q k1
  have hblt:b<w.heap.size:=(Array.getElem?_eq_some_iff.1 hb).1
  have hgr:∀o,w.grownBy { w with heap:=w.heap.setIfInBounds b o } (some b):=fun o=>⟨rfl,rfl,rfl,by simp,fun i _ hi=>by simp only[Array.getElem?_setIfInBounds];rw[if_neg (fun e=>hi (by rw[e]))]⟩
  have hnew:∀o,({ w with heap:=w.heap.setIfInBounds b o } :World).heap[b]? =some o:=fun o=>by simp[hblt]
  rcases L.find w (hD a ha) es hkeys with ⟨f1,f2⟩ | ⟨j,k,f1,f2,f3⟩
  · have hG:G a=none:=by
      cases hG:G a with
      | none=>rfl
      | some y=>
        obtain⟨-,e,he,hek⟩:=H.all a y hG
        exact absurd hek (f2 e he)
    have hU:updM G a none=G:=by
      funext x
      unfold updM
      split
      · rename_i e;rw[e,hG]
      · rfl
    rw[hU]
    refine⟨{ w with heap:=w.heap.setIfInBounds b (.map es.toArray c) },?_,⟨_,_,hnew _,H,hS⟩,hgr _,by simp⟩
    simp[Builtin.delete_,run_underlying ht,MapKept.run_getObj_map hb,L.check w _ (hD a ha),f1,MapKept.run_setObj_map _ hb,Result.andThen]
  · have hjl:j<es.length:=(List.getElem?_eq_some_iff.1 f2).1
    have hne:∀e∈es.eraseIdx j,e.key≠ek a:=fun e he hk=>by
      obtain⟨i,hil,hie⟩:=List.mem_eraseIdx_iff_getElem.1 he
      obtain⟨hij,hie⟩:=hie
      have g:(es.map (·.key))[j]'(by simpa using hjl)=(es.map (·.key))[i]'(by simpa using hil):=by
        simp only[List.getElem_map]
        rw[hie,hk,←f3]
        exact congrArg MapEntry.key (List.getElem?_eq_some_iff.1 f2).2
      exact hij ((List.getElem_inj H.keys).1 g).symm
    refine⟨{ w with heap:=w.heap.setIfInBounds b (.map (es.eraseIdx j).toArray c) },?_,⟨_,_,hnew _,⟨?_,?_,?_⟩,K8 (List.eraseIdx_sublist _ _) hS⟩,hgr _,by simp⟩
    · simp[Builtin.delete_,run_underlying ht,MapKept.run_getObj_map hb,L.check w _ (hD a ha),f1,MapKept.run_setObj_map _ hb,Result.andThen]
    · exact H.keys.sublist ((List.eraseIdx_sublist _ _).map _)
    · intro e he
      obtain⟨q,z,m1,m2,m3,m4⟩:=H.ent e ((List.eraseIdx_sublist _ _).subset he)
      refine⟨q,z,m1,m2,m3,?_⟩
      unfold updM
      rw[if_neg (fun f=>hne e he (by rw[m2,f]))]
      exact m4
    · intro q z hq
      unfold updM at hq
      split at hq
      · cases hq
      · rename_i hqa
        obtain⟨k1,e,he,hek⟩:=H.all q z hq
        refine⟨k1,e,?_,hek⟩
        obtain⟨i,hil,hie⟩:=List.mem_iff_getElem.1 he
        refine List.mem_eraseIdx_iff_getElem.2 ⟨i,hil,fun f=> ?_,hie⟩
        subst f
        apply hqa
        refine hi _ _ (hek.symm.trans ?_)
        rw[←f3,←hie]
        exact congrArg MapEntry.key (List.getElem?_eq_some_iff.1 f2).2
end
end
open Go.RowKit
open Go.WideElems (Fit rd rg rg_of)
open Go.WideShapes (sorted_perm)
open Go.MapKept Go.WideShapes
theorem SJ{es:List MapEntry}:(∀e∈es,∃a,e.key=St a)→∃ks:List (List UInt8),es.map (·.key)=ks.map St:=by
  induction es with
  | nil=>intro _;exact⟨[],rfl⟩
  | cons e r ih=>
    intro h
    obtain⟨a,ha⟩:=h e List.mem_cons_self
    obtain⟨ks,hk⟩:=ih fun x hx=>h x (List.mem_cons_of_mem _ hx)
    exact⟨a :: ks,by rw[List.map_cons,List.map_cons,ha,hk]⟩
theorem Dq{a b:List UInt8}(h:St a=St b):a=b:=by simpa using h
theorem O4{P:Program}{k:TypeId}(hk:P.underlying k=some .string){a:List UInt8}(ha:a.length≤maxLen):keyOf P k (St a)=some (.string a):=by
  simp[keyOf,hk,mapKey]
  exact ha
abbrev Fp(_:Value):Option (DataW Unit × List MemPlace):=some (.nil,[])
theorem MapF.owns{β:Type}{P:Program}{k:TypeId}(hk:P.underlying k=some .string){ev:β→Value}{D:List UInt8→Prop}(hD:∀a,D a→a.length≤maxLen){w:World}{b:Nat}{G:List UInt8→Option β}(h:MapF St ev D w b G){keys:List (List UInt8)}(hn:keys.Nodup)(hG:∀s,(G s).isSome=true↔s∈keys)(hmax:keys.length≤maxLen):
    ∃D0:DataW Unit,w.ownsMap P k Fp b keys.length D0∧(strKeys D0).Perm keys∧Maps.size D0=keys.length:=by
  obtain⟨es,c,hb,H,hS⟩:=h
  obtain⟨ks,hks⟩:=SJ (es:=es) fun e he=>by obtain⟨a,y,-,h2,-,-⟩:=H.ent e he;exact⟨a,h2⟩
  have hnd:ks.Nodup:=by
    have h:=H.keys
    rw[hks]at h
    exact List.Pairwise.of_map St (fun a b hne e=>hne (by rw[e])) h
  have hmem:∀s,s∈ks↔(G s).isSome=true:=fun s=>by
    constructor
    · intro hs
      have h1:St s∈es.map (·.key):=by rw[hks];exact List.mem_map_of_mem hs
      obtain⟨e,he,f⟩:=List.mem_map.1 h1
      obtain⟨a,y,-,h2,-,h4⟩:=H.ent e he
      obtain rfl:a=s:=Dq (h2.symm.trans f)
      rw[h4];rfl
    · intro hs
      obtain⟨y,hy⟩:=Option.isSome_iff_exists.1 hs
      obtain⟨-,e,he,f⟩:=H.all s y hy
      have h1:St s∈es.map (·.key):=List.mem_map.2 ⟨e,he,f⟩
      rw[hks]at h1
      obtain⟨a,ha,g⟩:=List.mem_map.1 h1
      rwa [←Dq g]
  have hperm:ks.Perm keys:=(List.perm_ext_iff_of_nodup hnd hn).2 fun s=>(hmem s).trans (hG s)
  have hlen:es.length=keys.length:=by
    have h1:=congrArg List.length hks
    rw[List.length_map,List.length_map]at h1
    rw[h1,hperm.length_eq]
  have hrd:∀x∈es,∃a,x.key=St a∧rd P k Fp x=some (.string a, .nil):=fun x hx=>by
    obtain⟨a,y,ha,h2,-,-⟩:=H.ent x hx
    exact⟨a,h2,by unfold Go.WideElems.rd;rw[h2,O4 hk (hD a ha)];rfl⟩
  have hF:Fit P k Fp es.toArray c:=⟨by rw[List.size_toArray,hlen];exact hmax,hS,fun x hx=>by
    obtain⟨a,-,h2⟩:=hrd x (by simpa using hx)
    exact⟨_,h2⟩⟩
  refine⟨.map ((es.toArray.toList.map (rg P k Fp)).foldr DataW.insert []),⟨es.toArray,c,hb,hF,by rw[List.size_toArray,hlen];exact Nat.le_refl _,rfl⟩,?_,?_⟩
  · have h1:(strKeys (.map ((es.toArray.toList.map (rg P k Fp)).foldr DataW.insert []))).Perm ((es.map (rg P k Fp)).map fun p=>strOf p.1):=(sorted_perm _).map _
    refine h1.trans ?_
    have h2:(es.map (rg P k Fp)).map (fun p=>strOf p.1)=(es.map (·.key)).map fun v=>match v with | .string s=>s.data.toList | _=> []:=by
      rw[List.map_map,List.map_map]
      refine List.map_congr_left fun x hx=> ?_
      obtain⟨a,h3,h4⟩:=hrd x hx
      show strOf (rg P k Fp x).1=_
      rw[rg_of h4]
      simp only[Function.comp,h3,strOf]
    rw[h2,hks,List.map_map]
    have h5:ks.map ((fun v:Value=>match v with | .string s=>s.data.toList | _=> [])∘St)=ks:=by
      conv=>rhs;rw[←List.map_id ks]
      exact List.map_congr_left fun a _=>rfl
    rw[h5]
    exact hperm
  · show((es.toArray.toList.map (rg P k Fp)).foldr DataW.insert []).length=_
    rw[(sorted_perm _).length_eq,List.length_map,hlen]
open Go.RowKit
section
variable {P : Program} {K : Value → World → Prop} {ρ : Ai} {w : World} {d : Option Tmp} {ty : TypeId} {pos : String} {af : Array Edge} {gd : Option (Nat × Bool)}
variable {α β : Type} {ek : α → Value} {ev : β → Value} {D : α → Prop} {b : Nat} {G : α → Option β}
variable {t Kt E : TypeId} {OK : Value → Prop}
theorem Yk.lookM(L:KL P Kt OK)(hD:∀a,D a→OK (ek a))(hi:∀a c,ek a=ek c→a=c)(ht:P.underlying t=some (.map Kt E)){z:Value}(hz:∀u:World,(zeroValue E).run P u = .ok z u){x y:Operand}{a:α} 
    (hm:Ab ρ x = .map (some b)) (hy:Ab ρ y=ek a) (h:MapF ek ev D w b G) (ha:D a) (hk:K ((G a).elim z ev) w):
    Yk P K ((execOp (Ab ρ) ⟨d, .lookup t x y false,ty,pos,af,gd⟩).run P w):=by
  have hrun:=h.look L hD hi ht hz ha false
  refine Yk.value (v:=(G a).elim z ev) (w' :=w) ?_ hk
  unfold execOp
  simp only[hm,hy,Sem.run_bind,hrun,Result.andThen_ok,Sem.run_pure]
  rfl
theorem Yk.putM[DecidableEq α](L:KL P Kt OK)(hD:∀a,D a→OK (ek a))(ht:P.underlying t=some (.map Kt E)){x y z:Operand}{a:α}{c:β} 
    (hm:Ab ρ x = .map (some b)) (hy:Ab ρ y=ek a) (hz:Ab ρ z=ev c) (h:MapF ek ev D w b G) (ha:D a) (hk:∀w',MapF ek ev D w' b (updM G a (some c))→w.grownBy w' (some b)→w'.heap.size=w.heap.size→K undef w'):
    Yk P K ((execOp (Ab ρ) ⟨d, .mapUpdate t x y z,ty,pos,af,gd⟩).run P w):=by
  obtain⟨w',hrun,h1,h2,h3⟩:=h.put L hD ht ha c
  have hr:(execOp (Ab ρ) ⟨d, .mapUpdate t x y z,ty,pos,af,gd⟩).run P w = .ok .skip w' ∨(execOp (Ab ρ) ⟨d, .mapUpdate t x y z,ty,pos,af,gd⟩).run P w = .ok (.value undef) w' :=by
    unfold execOp
    simp only[hm,hy,hz,Sem.run_bind,hrun,Result.andThen_ok,Sem.run_pure]
    simp
  rcases hr with hr | hr <;> rw[hr] <;> exact hk w' h1 h2 h3
theorem Yk.delM[DecidableEq α](L:KL P Kt OK)(hD:∀a,D a→OK (ek a))(hi:∀a c,ek a=ek c→a=c)(ht:P.underlying t=some (.map Kt E)){x y:Operand}{a:α} 
    (hm:Ab ρ x = .map (some b)) (hy:Ab ρ y=ek a) (h:MapF ek ev D w b G) (ha:D a) (hk:∀w',MapF ek ev D w' b (updM G a none)→w.grownBy w' (some b)→w'.heap.size=w.heap.size→K (.tuple #[]) w'):
    Yk P K ((execOp (Ab ρ) ⟨d, .call ⟨.builtin .delete,#[x,y],#[t,Kt]⟩,ty,pos,af,gd⟩).run P w):=by
  obtain⟨w',hrun,h1,h2,h3⟩:=h.del L hD hi ht (ty:=ty) ha
  refine Yk.value (v:= .tuple #[]) (w' :=w') ?_ (hk w' h1 h2 h3)
  unfold execOp
  simp only[resolve,invoke,builtin,Sem.run_bind,Sem.run_pure,Result.andThen_ok,List.map_toArray,List.map_cons,List.map_nil,hm,hy,hrun]
theorem Yk.mkMap(ek:α→Value)(ev:β→Value)(D:α→Prop)(hk:∀g w',w.heap.size=g→MapF ek ev D w' g (fun _=>none)→Ext w w' →w'.heap.size=g+1→K (.map (some g)) w'):
    Yk P K ((execOp (Ab ρ) ⟨d, .makeMap t none,ty,pos,af,gd⟩).run P w):=by
  refine Yk.value (v:= .map (some w.heap.size)) (w' :=w.alloc (.map #[] 0)) ?_ (hk _ _ rfl (MapF.made ek ev D w) ((Below.refl _ _).alloc (Nat.le_refl _) _) (by simp))
  unfold execOp
  simp[Instr.makeMap,newObj,Result.andThen]
  rfl
theorem Yk.lookMS(L:KL P Kt OK)(hD:∀a,D a→OK (ek a))(hi:∀a c,ek a=ek c→a=c)(ht:P.underlying t=some (.map Kt E)){z:Value}(hz:∀u:World,(zeroValue E).run P u = .ok z u){x y:Operand}{a:α}{c:β} 
    (hm:Ab ρ x = .map (some b)) (hy:Ab ρ y=ek a) (h:MapF ek ev D w b G) (ha:D a) (hG:G a=some c) (hk:K (ev c) w):Yk P K ((execOp (Ab ρ) ⟨d, .lookup t x y false,ty,pos,af,gd⟩).run P w):=
  Yk.lookM L hD hi ht hz hm hy h ha (by rw[hG];exact hk)
theorem Yk.lookMN(L:KL P Kt OK)(hD:∀a,D a→OK (ek a))(hi:∀a c,ek a=ek c→a=c)(ht:P.underlying t=some (.map Kt E)){z:Value}(hz:∀u:World,(zeroValue E).run P u = .ok z u){x y:Operand}{a:α} 
    (hm:Ab ρ x = .map (some b)) (hy:Ab ρ y=ek a) (h:MapF ek ev D w b G) (ha:D a) (hG:G a=none) (hk:K z w):Yk P K ((execOp (Ab ρ) ⟨d, .lookup t x y false,ty,pos,af,gd⟩).run P w):=
  Yk.lookM L hD hi ht hz hm hy h ha (by rw[hG];exact hk)
theorem Yk.build{parts:Array (Nat × Operand)}{vs:Array (Nat × Value)}{v:Value}(hv:(parts.map fun(i,x)=>(i,Ab ρ x))=vs)(hr:∀w:World,(Instr.build t vs).run P w = .ok v w)(hk:K v w):
    Yk P K ((execOp (Ab ρ) ⟨d, .build t parts,ty,pos,af,gd⟩).run P w):=by
  refine Yk.value (v:=v) (w' :=w) ?_ hk
  unfold execOp
  simp only[hv,hr,Sem.run_bind,Result.andThen_ok,Sem.run_pure]
theorem Yk.build1{i0:Nat}{x0:Operand}{a v:Value}(h0:Ab ρ x0=a)(hr:∀w:World,(Instr.build t #[(i0,a)]).run P w = .ok v w)(hk:K v w):Yk P K ((execOp (Ab ρ) ⟨d, .build t #[(i0,x0)],ty,pos,af,gd⟩).run P w):=
  Yk.build (by simp[h0]) hr hk
theorem Yk.build2{i0 i1:Nat}{x0 x1:Operand}{a b v:Value}(h0:Ab ρ x0=a)(h1:Ab ρ x1=b)(hr:∀w:World,(Instr.build t #[(i0,a),(i1,b)]).run P w = .ok v w)(hk:K v w):Yk P K ((execOp (Ab ρ) ⟨d, .build t #[(i0,x0),(i1,x1)],ty,pos,af,gd⟩).run P w):=
  Yk.build (by simp[h0,h1]) hr hk
theorem Yk.lit1G{k:Nat}{enc:α→List Value}{e:TypeId}{x:Operand}{a:α}(hx:Ab ρ x = .agg (enc a).toArray)(hl:(enc a).length=k) 
    (hr:∀(cs:Array Value),cs.size=k→∀w:World,(Instr.buildSlice t 1 #[(0, .agg cs)]).run P w = .ok (.slice (some ⟨w.heap.size,0,none⟩) 1 1) (w.alloc (.cells cs e)))
    (hk:∀v w',RG k enc w' v [a]→Ext w w' →K v w'):Yk P K ((execOp (Ab ρ) ⟨d, .buildSlice t 1 #[(0,x)],ty,pos,af,gd⟩).run P w):=by
  have hE:Ext w (w.alloc (.cells (enc a).toArray e)):=(Below.refl _ _).alloc (Nat.le_refl _) _
  refine Yk.value (v:= .slice (some ⟨w.heap.size,0,none⟩) 1 1) (w' :=w.alloc (.cells (enc a).toArray e)) ?_ (hk _ _ (RG.single hl (heap_alloc_new w _)) hE)
  unfold execOp
  simp only[List.map_toArray,List.map_cons,List.map_nil,hx,Sem.run_bind,hr _ (show(enc a).toArray.size=k by rw[List.size_toArray];exact hl),Result.andThen_ok,Sem.run_pure]
theorem RG.elem{k:Nat}{enc:α→List Value}{v:Value}{l:List α}(h:RG k enc w v l)(dd:α){i:Nat}(hi:i<l.length):(enc (l.getD i dd)).length=k:=by
  refine h.1 _ ?_
  rw[List.getD_eq_getElem?_getD,List.getElem?_eq_getElem hi]
  exact List.getElem_mem hi
theorem RG.cut{k:Nat}{enc:α→List Value}{v:Value}{l:List α}(h:∀x∈l,(enc x).length=k){a c:Nat}(ha:a≤c)(hc:c≤l.length)(hR:Reads w k v (c-a) (((l.flatMap enc).drop (a*k)).take ((c-a)*k))):RG k enc w v ((l.drop a).take (c-a)):=by
  have hd:∀(l:List α) (n:Nat),(∀x∈l,(enc x).length=k)→(l.flatMap enc).drop (n*k)=(l.drop n).flatMap enc:=by
    intro l n
    induction n generalizing l with
    | zero=>intro _;simp
    | succ n ih=>
      intro h
      cases l with
      | nil=>simp
      | cons x r=>
        have hx:=h x (by simp)
        rw[List.flatMap_cons,List.drop_succ_cons,←ih r (fun y hy=>h y (by simp[hy])),show(n+1)*k=(enc x).length+n*k by rw[hx,Nat.add_mul];omega,List.drop_append,List.drop_of_length_le (by omega),Nat.add_sub_cancel_left,List.nil_append]
  have htk:∀(l:List α) (n:Nat),(∀x∈l,(enc x).length=k)→(l.flatMap enc).take (n*k)=(l.take n).flatMap enc:=by
    intro l n
    induction n generalizing l with
    | zero=>intro _;simp
    | succ n ih=>
      intro h
      cases l with
      | nil=>simp
      | cons x r=>
        have hx:=h x (by simp)
        rw[List.flatMap_cons,List.take_succ_cons,List.flatMap_cons,←ih r (fun y hy=>h y (by simp[hy])),show(n+1)*k=(enc x).length+n*k by rw[hx,Nat.add_mul];omega,List.take_append,List.take_of_length_le (by omega),Nat.add_sub_cancel_left]
  refine⟨fun x hx=>h x (List.mem_of_mem_drop (List.mem_of_mem_take hx)),?_⟩
  rw[hd l a h,htk _ _ (fun x hx=>h x (List.mem_of_mem_drop hx))]at hR
  rw[show((l.drop a).take (c-a)).length=c-a by rw[List.length_take,List.length_drop];omega]
  exact hR
theorem Yk.sliceLoG{k:Nat}{enc:α→List Value}{e:TypeId}(ht:P.underlying t=some (.slice e))(he:∀w' :World,(sizeOf e).run P w' = .ok k w'){x lo:Operand}{v:Value}{xs:List α}(hx:Ab ρ x=v)(h:RG k enc w v xs){kd:IntKind}{l:Nat}(hlo:Ab ρ lo = .int kd (l:Int))(hl:l≤xs.length) 
    (hk:∀v',RG k enc w v' (xs.drop l)→v'.ownBlock=v.ownBlock→K v' w):Yk P K ((execOp (Ab ρ) ⟨d, .slice t x (some lo) none none,ty,pos,af,gd⟩).run P w):=by
  obtain⟨ao,c,⟨hrun,hb⟩,hR⟩:=CP ht he h.2 (some (.int kd l)) none l xs.length hl (Nat.le_refl _) (.inr ⟨kd,rfl⟩) (.inl ⟨rfl,rfl⟩)
  have hR' :=RG.cut h.1 hl (Nat.le_refl _) hR
  rw[List.take_of_length_le (by rw[List.length_drop];exact Nat.le_refl _)]at hR'
  refine Yk.value (v:= .slice ao (xs.length-l) c) (w' :=w) ?_ (hk _ hR' hb)
  unfold execOp
  simp only[hx,hlo,Option.map_some,Option.map_none,hrun,Sem.run_bind,Sem.run_pure,Result.andThen_ok]
theorem Yk.sliceHiG{k:Nat}{enc:α→List Value}{e:TypeId}(ht:P.underlying t=some (.slice e))(he:∀w' :World,(sizeOf e).run P w' = .ok k w'){x hi:Operand}{v:Value}{xs:List α}(hx:Ab ρ x=v)(h:RG k enc w v xs){kd:IntKind}{n:Nat}(hhi:Ab ρ hi = .int kd (n:Int))(hl:n≤xs.length) 
    (hk:∀v',RG k enc w v' (xs.take n)→v'.ownBlock=v.ownBlock→K v' w):Yk P K ((execOp (Ab ρ) ⟨d, .slice t x none (some hi) none,ty,pos,af,gd⟩).run P w):=by
  obtain⟨ao,c,⟨hrun,hb⟩,hR⟩:=CP ht he h.2 none (some (.int kd n)) 0 n (Nat.zero_le _) hl (.inl ⟨rfl,rfl⟩) (.inr ⟨kd,rfl⟩)
  have hR' :=RG.cut h.1 (Nat.zero_le _) hl hR
  rw[List.drop_zero,Nat.sub_zero]at hR'
  refine Yk.value (v:= .slice ao (n-0) c) (w' :=w) ?_ (hk _ hR' hb)
  unfold execOp
  simp only[hx,hhi,Option.map_some,Option.map_none,hrun,Sem.run_bind,Sem.run_pure,Result.andThen_ok]
end
open Go.RowKit
section
variable {α β : Type} (ek : α → Value) (ev : β → Value)
def MIt(w:World)(g bm:Nat)(left:List (α × β)):Prop:=
  ∃es clock since seen c0,w.heap[g]? =some (.mapIter (some bm) since seen c0)∧w.heap[bm]? =some (.map es clock)∧MapKept.Stamped es clock∧(∀x∈es.toList,x.born<since)∧since≤c0∧since≤clock∧((leftOf es seen).toList.map fun e=>(e.key,e.val)).Perm (left.map fun p=>(ek p.1,ev p.2))
def R3(w:World)(g bm:Nat)(a:α)(y:β):Prop:=
  ∃(es:Array MapEntry) (clock since:Nat) (seen:Array Nat) (e:MapEntry),w.heap[g]? =some (.mapIter (some bm) since (seen.push e.born) clock)∧w.heap[bm]? =some (.map es clock)∧(es.toList.map (·.born)).Nodup∧e∈es.toList∧e.key=ek a∧e.val=ev y
end
def World.mleft(w:World)(g:Nat):Nat:=match w.heap[g]? with
  | some (.mapIter (some bm) _ seen _)=>(match w.heap[bm]? with | some (.map es _)=>(leftOf es seen).size | _=>0)
  | _=>0
theorem MIt.mleft{α β:Type}{ek:α→Value}{ev:β→Value}{w:World}{g bm:Nat}{left:List (α × β)}(h:MIt ek ev w g bm left):World.mleft w g=left.length:=by
  obtain⟨es,clock,since,seen,c0,hg,hb,-,-,-,-,hp⟩:=h
  have:=hp.length_eq
  rw[List.length_map,List.length_map]at this
  unfold World.mleft
  rw[hg]
  simp only[hb]
  rw[←this]
  simp
theorem MIt.lt{α β:Type}{ek:α→Value}{ev:β→Value}{w:World}{g bm:Nat}{left:List (α × β)}(h:MIt ek ev w g bm left):g<w.heap.size:=by
  obtain⟨es,clock,since,seen,c0,hg,-⟩:=h
  exact(Array.getElem?_eq_some_iff.1 hg).1
theorem IK{e:MapEntry}:∀ {l:List MapEntry},(l.map (·.born)).Nodup→e∈l→l.Perm (e :: l.filter fun x=> !(x.born==e.born))
  | [],_,h=>by cases h
  | x :: l,hn,h=>by
    have hn' :=List.nodup_cons.1 hn
    rcases List.mem_cons.1 h with rfl | h
    · have hf:l.filter (fun x=> !(x.born==e.born))=l:=List.filter_eq_self.2 fun y hy=>by
        have:y.born≠e.born:=fun q=>hn'.1 (List.mem_map.2 ⟨y,hy,q⟩)
        simpa using this
      rw[List.filter_cons_of_neg (by simp),hf]
    · have hx:x.born≠e.born:=fun q=>hn'.1 (List.mem_map.2 ⟨e,h,q.symm⟩)
      rw[List.filter_cons_of_pos (by simpa using hx)]
      exact((IK hn'.2 h).cons x).trans (List.Perm.swap _ _ _)
theorem M8(es:Array MapEntry)(seen:Array Nat)(b:Nat):(leftOf es (seen.push b)).toList=(leftOf es seen).toList.filter fun x=> !(x.born==b):=by
  unfold leftOf
  simp only[Array.toList_filter,List.filter_filter]
  refine List.filter_congr fun x _=> ?_
  rw[Bool.eq_iff_iff]
  simp[and_comm]
theorem Mc{es:Array MapEntry}{seen:Array Nat}(h:(es.toList.map (·.born)).Nodup):((leftOf es seen).toList.map (·.born)).Nodup:=by
  unfold leftOf
  rw[Array.toList_filter]
  exact(List.filter_sublist.map _).nodup h
section
variable {P : Program} {K : Value → World → Prop} {ρ : Ai} {w : World} {d : Option Tmp} {ty : TypeId} {pos : String} {af : Array Edge} {gd : Option (Nat × Bool)}
variable {α β : Type} {ek : α → Value} {ev : β → Value} {D : α → Prop} {b : Nat} {G : α → Option β} {t Kt E : TypeId}
theorem Yk.rangeM(hi:∀a c,ek a=ek c→a=c)(ht:P.underlying t=some (.map Kt E)){x:Operand}(hx:Ab ρ x = .map (some b))(h:MapF ek ev D w b G){ps:List (α × β)}(hn:(ps.map Prod.fst).Nodup)(hG:∀a y,G a=some y↔(a,y)∈ps) 
    (hk:∀n w',w.heap.size=n→MIt ek ev w' n b ps→Ext w w' →w'.heap.size=n+1→K (.pointer (some ⟨n,0,none⟩)) w'):Yk P K ((execOp (Ab ρ) ⟨d, .range t x,ty,pos,af,gd⟩).run P w):=by
  have hlt:=h.lt
  obtain⟨es,c,hb,H,hS⟩:=h
  have hr:(execOp (Ab ρ) ⟨d, .range t x,ty,pos,af,gd⟩).run P w = .ok (.value (.pointer (some ⟨w.heap.size,0,none⟩))) (w.alloc (.mapIter (some b) c #[] c)):=by
    unfold execOp
    simp only[hx,Sem.run_bind,run_range_map w t Kt E b _ c ht hb,Result.andThen_ok,Sem.run_pure]
  rw[hr]
  refine hk _ _ rfl ⟨es.toArray,c,c,#[],c,heap_alloc_new _ _,(heap_alloc_old _ _ hlt).trans hb,hS,hS.1,Nat.le_refl _,Nat.le_refl _,?_⟩ ((Below.refl _ _).alloc (Nat.le_refl _) _) (by simp)
  have h0:(leftOf es.toArray #[]).toList=es:=by
    unfold leftOf
    rw[Array.toList_filter]
    exact List.filter_eq_self.2 fun _ _=>by simp
  rw[h0]
  refine(List.perm_ext_iff_of_nodup ?_ ?_).2 fun q=> ?_
  · exact List.Pairwise.of_map (S:=(· ≠ ·)) Prod.fst (fun a c hne e=>hne (by rw[e])) (by rw[List.map_map];exact H.keys)
  · refine List.Pairwise.map _ (fun p q hne e=>hne ?_) (List.Pairwise.of_map (S:=(· ≠ ·)) (R:=fun p q:α × β=>p.1≠q.1) Prod.fst (fun _ _ h=>h) hn)
    exact hi _ _ (congrArg Prod.fst e)
  · constructor
    · intro hq
      obtain⟨e,he,rfl⟩:=List.mem_map.1 hq
      obtain⟨a,y,-,h2,h3,h4⟩:=H.ent e he
      exact List.mem_map.2 ⟨(a,y),(hG a y).1 h4,by rw[h2,h3]⟩
    · intro hq
      obtain⟨p,hp,rfl⟩:=List.mem_map.1 hq
      have hg:=(hG p.1 p.2).2 hp
      obtain⟨-,e,he,hek⟩:=H.all p.1 p.2 hg
      obtain⟨a,y,-,h2,h3,h4⟩:=H.ent e he
      have ha:a=p.1:=hi _ _ (h2.symm.trans hek)
      rw[ha,hg]at h4
      cases h4
      exact List.mem_map.2 ⟨e,he,by rw[hek,h3]⟩
theorem Yk.nextM{x:Operand}{g bm:Nat}{left:List (α × β)}(hx:Ab ρ x = .pointer (some ⟨g,0,none⟩))(h:MIt ek ev w g bm left) 
    (h0:left= []→K (.tuple #[.bool false]) w) (h1:∀a y rest w',left.Perm ((a,y) :: rest)→MIt ek ev w' g bm rest→R3 ek ev w' g bm a y→w.grownBy w' (some g)→w'.heap.size=w.heap.size→K (.tuple #[.bool true,ek a,ev y]) w'):
    Yk P K ((execOp (Ab ρ) ⟨d, .next x false,ty,pos,af,gd⟩).run P w):=by
  obtain⟨es,clock,since,seen,c0,hg,hb,hS,hold,hsc,hck,hp⟩:=h
  have hgl:=(Array.getElem?_eq_some_iff.1 hg).1
  have hne:bm≠g:=fun e=>by rw[e,hg]at hb;cases hb
  have hlp:=hp.length_eq
  rw[List.length_map,List.length_map]at hlp
  have hL:(leftOf es seen).toList.length=(leftOf es seen).size:=by simp
  by_cases hz:(leftOf es seen).size=0
  · have hr:(Instr.next (.pointer (some ⟨g,0,none⟩)) false ty).run P w = .ok (.tuple #[.bool false]) w:=by
      simp only[Instr.next,getObj,Sem.run_bind,Sem.run,hg,hb,Result.andThen,next_test_false seen es since c0 hold hsc,Bool.false_eq_true,if_false]
      unfold leftOf at hz
      have hz' :Array.filter (fun e=> !seen.contains e.born) es = #[]:=Array.eq_empty_of_size_eq_zero hz
      rw[hz']
      simp[choose,Sem.run,Question.forced]
    unfold execOp
    simp only[hx,hr,Sem.run_bind,Result.andThen_ok,Sem.run_pure]
    exact h0 (List.eq_nil_of_length_eq_zero (by omega))
  · obtain⟨e,he,w1,hw1,hsz1,hr⟩:∃e∈(leftOf es seen).toList,∃w1:World,w.grownBy w1 none∧w1.heap=w.heap∧(Instr.next (.pointer (some ⟨g,0,none⟩)) false ty).run P w = .ok (.tuple #[.bool true,e.key,e.val]) { w1 with heap:=w1.heap.setIfInBounds g (.mapIter (some bm) since (seen.push e.born) clock) } :=by
      simp only[Instr.next,getObj,Sem.run_bind,Sem.run,hg,hb,Result.andThen,next_test_false seen es since c0 hold hsc,Bool.false_eq_true,if_false]
      unfold leftOf at hz ⊢
      have hmem:∀x∈(Array.filter (fun e=> !seen.contains e.born) es).toList,x.born<since:=fun x hx=>hold x (by simp at hx ⊢;exact hx.1)
      generalize Array.filter (fun e=> !seen.contains e.born) es=L at hmem hz ⊢
      have l:L.filter (fun x=>decide (x.born<since))=L:=Array.filter_eq_self.2 (fun x hx=>by simpa using hmem x (by simpa using hx))
      have m:L.filter (fun x=>decide (x.born≥since)) = #[]:=by
        rw[Array.filter_eq_empty_iff]
        intro x hx
        have:=hmem x (by simpa using hx)
        simp
        omega
      simp only[l,m,Array.append_empty]
      have hne' :L.isEmpty=false:=by simp[Array.isEmpty,hz]
      simp only[hne',Bool.false_eq_true,if_false,Array.empty_append,Array.size_map]
      have hch:∃(j:Nat) (w1:World),j<L.size∧w.grownBy w1 none∧w1.heap=w.heap∧(choose (Question.mapNext L.size)).run P w = .ok j w1:=by
        by_cases hf:L.size≤1
        · exact⟨0,w,by omega,World.grownBy.refl _ _,rfl,by simp[choose,Sem.run,Question.forced,hf]⟩
        · exact⟨_,w.drew,Nat.mod_lt _ (by omega),(Grew.refl w undef).drew.by_,rfl,by
            simp only[choose,Sem.run,Question.forced,decide_eq_true_eq,hf,if_false,Question.cut]
            rfl⟩
      obtain⟨j,w1,hj,hal,hwh,hrun⟩:=hch
      refine⟨L[j],by simp,w1,hal,hwh,?_⟩
      simp only[hrun,Array.getElem?_map,Array.getElem?_eq_getElem hj,Option.map_some,Sem.run_bind,Result.andThen,setObj,Sem.run,hwh,hg]
      rfl
    have hmk:(e.key,e.val)∈left.map fun p=>(ek p.1,ev p.2):=hp.mem_iff.1 (List.mem_map_of_mem (f:=fun e:MapEntry=>(e.key,e.val)) he)
    obtain⟨p,hpm,hpe⟩:=List.mem_map.1 hmk
    obtain⟨rest,hrest⟩:∃rest,left.Perm (p :: rest):=by
      obtain⟨s,t,hst⟩:=List.append_of_mem hpm
      exact⟨s++t,by rw[hst];exact List.perm_middle⟩
    have b:ek p.1=e.key:=congrArg Prod.fst hpe
    have c:ev p.2=e.val:=congrArg Prod.snd hpe
    unfold execOp
    simp only[hx,hr,Sem.run_bind,Result.andThen_ok,Sem.run_pure]
    rw[←b,←c]
    have hgr:w.grownBy { w1 with heap:=w1.heap.setIfInBounds g (.mapIter (some bm) since (seen.push e.born) clock) } (some g):=
      ⟨hw1.os,hw1.tape,hw1.output,by simp[hsz1],fun i _ hi=>by rw[hsz1];simp only[Array.getElem?_setIfInBounds];rw[if_neg (fun q=>hi (by rw[q]))]⟩
    have k:({ w1 with heap:=w1.heap.setIfInBounds g (.mapIter (some bm) since (seen.push e.born) clock) } :World).heap[bm]? =some (.map es clock):=by
      simp only[hsz1,Array.getElem?_setIfInBounds];rw[if_neg (fun q=>hne q.symm)];exact hb
    have hes:e∈es.toList:=by have:=he;unfold leftOf at this;simp at this ⊢;exact this.1
    refine h1 p.1 p.2 rest _ hrest ⟨es,clock,since,seen.push e.born,clock,by simp[hsz1,hgl],k,hS,hold,hck,hck,?_⟩ ⟨es,clock,since,seen,e,by simp[hsz1,hgl],k,hS.2.1,hes,b.symm,c.symm⟩ hgr (by simp[hsz1])
    · have h2:=(IK (Mc (seen:=seen) hS.2.1) he).map fun e:MapEntry=>(e.key,e.val)
      rw[←M8]at h2
      have h3:=(h2.symm.trans hp).trans (hrest.map fun p=>(ek p.1,ev p.2))
      rw[List.map_cons,List.map_cons,←hpe]at h3
      exact h3.cons_inv
theorem Yk.nextEndM{x:Operand}{g bm:Nat}{left:List (α × β)}(hx:Ab ρ x = .pointer (some ⟨g,0,none⟩))(h:MIt ek ev w g bm left)(h0:left= [])(hk:K (.tuple #[.bool false]) w):
    Yk P K ((execOp (Ab ρ) ⟨d, .next x false,ty,pos,af,gd⟩).run P w):=
  Yk.nextM hx h (fun _=>hk) fun a y rest w' hp _ _ _ _=>by rw[h0]at hp;exact absurd hp.length_eq (by simp)
theorem Yk.nextInM{x:Operand}{g bm:Nat}{left:List (α × β)}(hx:Ab ρ x = .pointer (some ⟨g,0,none⟩))(h:MIt ek ev w g bm left)(h0:left≠ []) 
    (hk:∀a y rest w',left.Perm ((a,y) :: rest)→MIt ek ev w' g bm rest→R3 ek ev w' g bm a y→w.grownBy w' (some g)→w'.heap.size=w.heap.size→K (.tuple #[.bool true,ek a,ev y]) w'):
    Yk P K ((execOp (Ab ρ) ⟨d, .next x false,ty,pos,af,gd⟩).run P w):=Yk.nextM hx h (fun e=>absurd e h0) hk
theorem Yk.entryM{x:Operand}{g bm:Nat}{a:α}{y:β}(hx:Ab ρ x = .pointer (some ⟨g,0,none⟩))(h:R3 ek ev w g bm a y)(hk:K (.tuple #[ek a,ev y]) w):
    Yk P K ((execOp (Ab ρ) ⟨d, .entry x,ty,pos,af,gd⟩).run P w):=by
  obtain⟨es,clock,since,seen,e,hg,hb,hn,he,h1,h2⟩:=h
  have hf:es.find? (·.born==e.born)=some e:=by rw[←Array.find?_toList];exact find_born e es.toList hn he
  have hr:(Instr.entry (.pointer (some ⟨g,0,none⟩))).run P w = .ok (.tuple #[e.key,e.val]) w:=by
    simp only[Instr.entry,getObj,Sem.run_bind,Sem.run,hg,hb,Result.andThen,Array.back?_push,bne_self_eq_false,Bool.false_eq_true,if_false,hf]
    rfl
  unfold execOp
  simp only[hx,hr,Sem.run_bind,Result.andThen_ok,Sem.run_pure]
  rw[h1,h2]
  exact hk
end
open Go.RowKit
structure DirOk (n : Nat) (l : Ba) : Prop where
  sort:Dj l
  num:∀e∈l,e.2<n
  may:∀e∈l,Bu e.1=true
structure ActOk (n : Nat) (a : AM) : Prop where
  num:a.file<n
  may:a.to.length≠0→Bu a.to=true
  frm:a.frm.length≤80
structure DOk (d : An) : Prop where
  now:DirOk d.files.length d.now
  kept:DirOk d.files.length d.kept
  acts:∀a∈d.acts,ActOk d.files.length a
  syn:∀x∈d.files,x.2≤x.1.length
theorem DirOk.nil(n:Nat):DirOk n []:=⟨List.Pairwise.nil,fun _ h=>(by cases h),fun _ h=>(by cases h)⟩
theorem DirOk.mono{n m:Nat}{l:Ba}(h:DirOk n l)(hn:n≤m):DirOk m l:=⟨h.sort,fun e he=>Nat.lt_of_lt_of_le (h.num e he) hn,h.may⟩
theorem ActOk.mono{n m:Nat}{a:AM}(h:ActOk n a)(hn:n≤m):ActOk m a:=⟨Nat.lt_of_lt_of_le h.num hn,h.may,h.frm⟩
theorem DirOk.turn{n:Nat}{l:Ba}{a:AM}(h:DirOk n l)(ha:ActOk n a):DirOk n (turnD l a):=
  ⟨M7 h.sort a,fun e he=>(JS he).elim (h.num e) fun⟨_,q⟩=>q▸ha.num,fun e he=>(JS he).elim (h.may e) fun⟨q,r⟩=>r▸ha.may q⟩
theorem DirOk.fold{n:Nat}:∀ {acs:List AM} {l:Ba},DirOk n l→(∀a∈acs,ActOk n a)→DirOk n (acs.foldl turnD l)
  | [],_,h,_=>h
  | a :: r,l,h,ha=>DirOk.fold (acs:=r) (l:=turnD l a) (h.turn (ha a List.mem_cons_self)) fun b hb=>ha b (List.mem_cons_of_mem _ hb)
theorem DirOk.look{n:Nat}{l:Ba}(h:DirOk n l){s:List UInt8}{k:Nat}(hk:AD l s=some k):k<n∧Bu s=true:=⟨h.num _ (ED hk),h.may _ (ED hk)⟩
theorem B0{s:List UInt8}(h:Bu s=true):1≤s.length∧s.length≤80:=by
  unfold Bu at h
  simpa using h
theorem DirOk.noEmpty{n:Nat}{l:Ba}(h:DirOk n l):AD l []=none:=DU.2 fun e he q=>by
  have:=B0 (h.may e he)
  rw[q]at this
  simp at this
theorem F8{d:An}{k:Nat}(h:k<d.files.length):AJ d k∈d.files:=by
  unfold AJ
  rw[List.getD_eq_getElem?_getD,List.getElem?_eq_getElem h]
  exact List.getElem_mem h
theorem DOk.sync_le{d:An}(h:DOk d)(k:Nat):(AJ d k).2≤(AJ d k).1.length:=by
  by_cases hk:k<d.files.length
  · exact h.syn _ (F8 hk)
  · unfold AJ
    rw[List.getD_eq_getElem?_getD,List.getElem?_eq_none (by omega)]
    exact Nat.le_refl 0
theorem DOk.turned{d:An}(h:DOk d){a:AM}(ha:ActOk d.files.length a):DOk (turnedD d a):=
  ⟨h.now.turn ha,h.kept,fun b hb=>(List.mem_append.1 hb).elim (h.acts b) fun q=>List.mem_singleton.1 q▸ha,h.syn⟩
theorem DOk.files{d:An}(h:DOk d)(fs:List (List UInt8 × Nat))(hl:d.files.length≤fs.length)(hs:∀x∈fs,x.2≤x.1.length):DOk { d with files:=fs } :=
  ⟨h.now.mono hl,h.kept.mono hl,fun a ha=>(h.acts a ha).mono hl,hs⟩
theorem DOk.setFile{d:An}(h:DOk d)(k:Nat)(x:List UInt8 × Nat)(hx:x.2≤x.1.length):DOk { d with files:=d.files.set k x } :=
  h.files _ (by rw[List.length_set];exact Nat.le_refl _) fun y hy=>(List.mem_or_eq_of_mem_set hy).elim (h.syn y) fun q=>q▸hx
theorem DOk.newFile{d:An}(h:DOk d)(x:List UInt8 × Nat)(hx:x.2≤x.1.length):DOk { d with files:=d.files++ [x] } :=
  h.files _ (by rw[List.length_append];exact Nat.le_add_right _ _) fun y hy=>(List.mem_append.1 hy).elim (h.syn y) fun q=>List.mem_singleton.1 q▸hx
theorem DOk.add{d:An}(h:DOk d){s:List UInt8}(b:List UInt8)(hs:Bu s=true):DOk (BN d s b):=by
  unfold BN
  split
  · rename_i k hk
    refine h.setFile k _ ?_
    have:=h.sync_le k
    simp only[List.length_append]
    omega
  · have h1:=h.newFile (b,0) (Nat.zero_le _)
    have h2:=h1.turned (a:=⟨[],s,d.files.length⟩) ⟨by simp,fun _=>hs,Nat.zero_le _⟩
    exact h2
theorem DOk.arm{d:An}(h:DOk d):DOk (Bh d).1:=by
  unfold Bh
  split
  · exact h
  · exact⟨h.now,h.kept,h.acts,h.syn⟩
theorem Fq(d:An):(Bh d).1.files=d.files∧(Bh d).1.now=d.now∧(Bh d).1.kept=d.kept∧(Bh d).1.acts=d.acts∧(Bh d).1.quota=d.quota∧(Bh d).1.refused=d.refused:=by
  unfold Bh
  split <;> exact⟨rfl,rfl,rfl,rfl,rfl,rfl⟩
theorem DOk.synced{d:An}(h:DOk d)(k:Nat):DOk { d with files:=d.files.set k ((AJ d k).1,(AJ d k).1.length),kept:=d.now,acts:= [] } :=by
  have h1:=h.setFile k ((AJ d k).1,(AJ d k).1.length) (Nat.le_refl _)
  exact⟨h1.now,h1.now,fun a ha=>(by cases ha),h1.syn⟩
theorem O5{d:An}{s t:List UInt8}(h:A6 d s t=0):d.down=false∧Bu s=true∧Bu t=true:=by
  unfold A6 at h
  split at h
  · cases h
  · rename_i hd
    split at h
    · rename_i hm
      exact⟨Bool.eq_false_iff.2 hd,hm⟩
    · cases h
theorem EF(l:List Int)(i:Nat){n:Nat}(hn:0<n):Bd l i n<n:=by
  unfold Bd
  split
  · have h1:=Int.emod_nonneg (l.getD i 0) (show((n:Nat):Int)≠0 by omega)
    have h2:=Int.emod_lt_of_pos (l.getD i 0) (show(0:Int)<((n:Nat):Int) by omega)
    show(Int.emod (l.getD i 0) ((n:Nat):Int)).toNat<n
    have h1:0≤Int.emod (l.getD i 0) ((n:Nat):Int):=h1
    have h2:Int.emod (l.getD i 0) ((n:Nat):Int)<((n:Nat):Int):=h2
    omega
  · exact hn
theorem Fs{d:An}(h:DOk d)(l:List Int)(i k:Nat):(CM d l i k).1.length=(CM d l i k).2∧(CM d l i k).2≤(AJ d k).1.length:=by
  have h1:=h.sync_le k
  have h2:=EF l (i+1) (n:=(AJ d k).1.length-(AJ d k).2+1) (by omega)
  unfold CM
  simp only[List.length_take]
  omega
theorem G4(l:Ba):(Dp l).map Prod.fst=l.map Prod.fst:=by
  unfold Dp
  exact List.ext_getElem (by simp) fun i h1 h2=>by simp
theorem M9{l:Ba}(h:Dj l):Dj (Dp l):=by
  have h1:((Dp l).map Prod.fst).Pairwise fun a b=>Op.bytesLess a b=true:=by
    rw[G4]
    exact h.map _ fun _ _ q=>q
  exact List.Pairwise.of_map Prod.fst (fun _ _ q=>q) h1
theorem DirOk.numbered{n:Nat}{l:Ba}(h:DirOk n l):DirOk l.length (Dp l):=
  ⟨M9 h.sort,fun e he=>by
    unfold Dp at he
    obtain⟨i,hi,rfl⟩:=List.mem_mapIdx.1 he
    exact hi,fun e he=>by
    have h1:e.1∈(Dp l).map Prod.fst:=List.mem_map_of_mem he
    rw[G4]at h1
    obtain⟨x,hx,hxe⟩:=List.mem_map.1 h1
    rw[←hxe]
    exact h.may x hx⟩
theorem DOk.left{d:An}(h:DOk d)(l:List Int):DirOk d.files.length (Aj d l):=h.kept.fold fun a ha=>h.acts a ((List.take_sublist _ _).subset ha)
theorem DOk.crash{d:An}(h:DOk d)(l:List Int):DOk (BS d l):=by
  have h1:=(h.left l).numbered
  refine⟨?_,?_,fun a ha=>(by cases ha),fun x hx=> ?_⟩
  · show DirOk ((Aj d l).mapIdx _).length _
    rw[List.length_mapIdx]
    exact h1
  · show DirOk ((Aj d l).mapIdx _).length _
    rw[List.length_mapIdx]
    exact h1
  · obtain⟨i,hi,rfl⟩:=List.mem_mapIdx.1 hx
    exact Nat.le_of_eq (Fs h l i _).1.symm
open Go.RowKit
structure Chg (B : Nat → Prop) (w w' : World) : Prop where
  os:w'.os=w.os
  tape:w'.tape=w.tape
  output:w'.output=w.output
  size:w.heap.size≤w'.heap.size
  blk:∀i,i<w.heap.size→¬B i→w'.heap[i]? =w.heap[i]?
theorem Chg.refl(B:Nat→Prop)(w:World):Chg B w w:=⟨rfl,rfl,rfl,Nat.le_refl _,fun _ _ _=>rfl⟩
theorem Chg.trans{B B' :Nat→Prop}{w w1 a:World}(h:Chg B w w1)(k:Chg B' w1 a)(hB:∀i,B' i→B i∨w.heap.size≤i):Chg B w a:=
  ⟨k.os.trans h.os,k.tape.trans h.tape,k.output.trans h.output,Nat.le_trans h.size k.size,fun i hi hn=>by
    have hs:=h.size
    rw[k.blk i (by omega) (fun hb=>(hB i hb).elim hn (by omega)),h.blk i hi hn]⟩
theorem Chg.mono{B B' :Nat→Prop}{w w' :World}(h:Chg B w w')(hB:∀i,i<w.heap.size→B i→B' i):Chg B' w w' :=
  ⟨h.os,h.tape,h.output,h.size,fun i hi hn=>h.blk i hi fun hb=>hn (hB i hi hb)⟩
theorem Chg.ofGrown{w w' :World}{r:Option Nat}{B:Nat→Prop}(h:w.grownBy w' r)(hr:∀i,r=some i→B i∨w.heap.size≤i):Chg B w w' :=
  ⟨h.os,h.tape,h.output,h.size,fun i hi hn=>h.block i hi fun e=>(hr i e.symm).elim hn (by omega)⟩
theorem Chg.ofExt{w w' :World}{B:Nat→Prop}(h:Ext w w'):Chg B w w' :=Chg.ofGrown h.grown fun i e=>by cases e
theorem Chg.ext{w0 w w' :World}{B:Nat→Prop}(hE:Ext w0 w)(h:Chg B w w')(hB:∀i,B i→w0.heap.size≤i):Ext w0 w' :=by
  have h1:=hE.grown
  have hs:=hE.size
  exact(Below.refl _ _).grown (⟨h.os.trans h1.os,h.tape.trans h1.tape,h.output.trans h1.output,Nat.le_trans hs h.size,fun i hi hn=>by
    rw[h.blk i (by omega) (fun hb=>by have:=hB i hb;omega),h1.block i hi hn]⟩:w0.grownBy w' none) (Nat.le_refl _) (fun _ e=>by cases e)
theorem CC{base:Nat}{e:TypeId}{size:Nat}{v:Value}{n:Nat}{xs:List Value}{B:Nat→Prop}{w w' :World}(hc:Chg B w w')(h:w.ownsRow base e size v n xs)(hB:∀i,v.ownBlock=some i→¬B i):w'.ownsRow base e size v n xs:=by
  refine⟨h.1,h.2.imp (fun x=>x) fun⟨g,cap,cur,a,c,b,r⟩=>⟨g,cap,cur,a,c,(hc.blk g (bl b) (hB g (by rw[a];rfl))).trans b,r⟩⟩
structure Dk where
  g:Nat
  mn:Nat
  ml:Nat
  va:Value
  F:Nat→Nat
  V:Nat→Value
def A1(H:Dk)(n:Nat)(i:Nat):Prop:=i=H.g∨i=H.mn∨i=H.ml∨H.va.ownBlock=some i∨∃k,k<n∧(i=H.F k∨(H.V k).ownBlock=some i)
structure FileAt (base : Nat) (w : World) (f : Nat) (v : Value) (x : List UInt8 × Nat) : Prop where
  blk:w.heap[f]? =some (.cells ([v,NI x.2]).toArray 105 (0,0))
  row:w.ownsRow base 5 1 v x.1.length (Lib.byteCells x.1)
  lo:base≤f
structure FilesAt (base : Nat) (w : World) (F : Nat → Nat) (V : Nat → Value) (fs : List (List UInt8 × Nat)) : Prop where
  at_:∀k,k<fs.length→FileAt base w (F k) (V k) (fs.getD k ([],0))
  inj:∀i j,i<fs.length→j<fs.length→F i=F j→i=j
  apart:∀i j,i<fs.length→j<fs.length→i≠j→∀x,(V i).ownBlock=some x→(V j).ownBlock≠some x
theorem FileAt.keep{base:Nat}{w w' :World}{f:Nat}{v:Value}{x:List UInt8 × Nat}(h:FileAt base w f v x){B:Nat→Prop}(hc:Chg B w w')(h1:¬B f)(h2:∀i,v.ownBlock=some i→¬B i):FileAt base w' f v x:=
  ⟨(hc.blk f (bl h.blk) h1).trans h.blk,CC hc h.row h2,h.lo⟩
theorem FilesAt.chg{base:Nat}{w w' :World}{F:Nat→Nat}{V:Nat→Value}{fs:List (List UInt8 × Nat)}(h:FilesAt base w F V fs){B:Nat→Prop}(hc:Chg B w w')(hB:∀k,k<fs.length→¬B (F k)∧∀i,(V k).ownBlock=some i→¬B i):FilesAt base w' F V fs:=
  ⟨fun k hk=>(h.at_ k hk).keep hc (hB k hk).1 (hB k hk).2,h.inj,h.apart⟩
def SK:Prop:=False
def ActAt(w:World)(F:Nat→Nat)(v:Value)(a:AM):Prop:=
  (∃bf bn,v = .func (.func 57) #[] #[PQ bf 0,PQ bn 0]∧w.heap[bf]? =some (.cells ([PQ (F a.file) 0]).toArray 81 (0,0))∧w.heap[bn]? =some (.cells ([St a.to]).toArray 9 (0,0))∧a.frm= []∧a.to.length≠0) ∨
  (SK∧∃bs bf bn,v = .func (.func 0) #[] #[PQ bs 0,PQ bf 0,PQ bn 0]∧w.heap[bs]? =some (.cells ([St a.frm]).toArray 9 (0,0))∧w.heap[bf]? =some (.cells ([PQ (F a.file) 0]).toArray 81 (0,0))∧w.heap[bn]? =some (.cells ([St a.to]).toArray 9 (0,0))∧a.to.length≠0) ∨
  (∃bn,v = .func (.func 86) #[] #[PQ bn 0]∧w.heap[bn]? =some (.cells ([St a.frm]).toArray 9 (0,0))∧a.to= [])
def TyB(w:World)(i:Nat):Prop:=(∃es c,w.heap[i]? =some (.map es c))∨∃cs t fr,w.heap[i]? =some (.cells cs t fr)∧(t=52∨t=105∨t=5∨t=107)
theorem TyB.off{w:World}{i:Nat}{cs:Array Value}{t:TypeId}{fr:Nat × Nat}(h:w.heap[i]? =some (.cells cs t fr))(h1:t≠52)(h2:t≠105)(h3:t≠5)(h4:t≠107):¬TyB w i:=by
  rintro(⟨es,c,e⟩ | ⟨cs',t',fr',e,k⟩)
  · rw[h]at e;cases e
  · rw[h]at e
    cases e
    rcases k with k | k | k | k
    · exact h1 k
    · exact h2 k
    · exact h3 k
    · exact h4 k
theorem ActAt.chg{w w' :World}{F F' :Nat→Nat}{v:Value}{a:AM}{B:Nat→Prop}(h:ActAt w F v a)(hc:Chg B w w')(hB:∀i,i<w.heap.size→B i→TyB w i)(hF:F' a.file=F a.file):ActAt w' F' v a:=by
  have k:∀ {b:Nat} {cs:Array Value} {t:TypeId} {fr:Nat × Nat},w.heap[b]? =some (.cells cs t fr)→t≠52→t≠105→t≠5→t≠107→w'.heap[b]? =some (.cells cs t fr):=fun e h1 h2 h3 h4=>(hc.blk _ (bl e) fun q=>TyB.off e h1 h2 h3 h4 (hB _ (bl e) q)).trans e
  rcases h with ⟨bf,bn,e,h1,h2,h3,h4⟩ | ⟨hm,bs,bf,bn,e,h1,h2,h3,h4⟩ | ⟨bn,e,h1,h2⟩
  · exact .inl ⟨bf,bn,e,by rw[hF];exact k h1 (by decide) (by decide) (by decide) (by decide),k h2 (by decide) (by decide) (by decide) (by decide),h3,h4⟩
  · exact .inr (.inl ⟨hm,bs,bf,bn,e,k h1 (by decide) (by decide) (by decide) (by decide),by rw[hF];exact k h2 (by decide) (by decide) (by decide) (by decide),k h3 (by decide) (by decide) (by decide) (by decide),h4⟩)
  · exact .inr (.inr ⟨bn,e,k h1 (by decide) (by decide) (by decide) (by decide),h2⟩)
abbrev pF(F:Nat→Nat)(k:Nat):Value:=PQ (F k) 0
abbrev Nm(s:List UInt8):Prop:=s.length≤80
abbrev FO(q mn ml:Nat)(va:Value)(rf ar:Nat)(dn:Bool):List Value:= [NI q, .map (some mn), .map (some ml),va,NI rf,NI ar, .bool dn]
structure JT (base : Nat) (w : World) (va : Value) (F : Nat → Nat) (acs : List AM) (vs : List Value) : Prop where
  row:w.ownsRow base 107 1 va vs.length vs
  len:vs.length=acs.length
  at_:∀i,i<acs.length→ActAt w F (vs.getD i undef) (acs.getD i ⟨[],[],0⟩)
structure DkS (base : Nat) (w : World) (H : Dk) (D : An) : Prop where
  blk:w.heap[H.g]? =some (.cells (FO D.quota H.mn H.ml H.va D.refused D.arm D.down).toArray 52 (0,0))
  now:MapF St (pF H.F) Nm w H.mn (AD D.now)
  kept:MapF St (pF H.F) Nm w H.ml (AD D.kept)
  ne:H.mn≠H.ml
  acts:∃vs,JT base w H.va H.F D.acts vs
  files:FilesAt base w H.F H.V D.files
  ok:DOk D
  lo:base≤H.g∧base≤H.mn∧base≤H.ml
open Go.RowKit
def Cj(w:World)(i:Nat):Option Nat:=match w.heap[i]? with | some (.map _ _)=>some 0 | some (.cells _ t _)=>some (t+1) | _=>none
theorem BF{w:World}{i:Nat}{cs:Array Value}{t:TypeId}{fr:Nat × Nat}(h:w.heap[i]? =some (.cells cs t fr)):Cj w i=some (t+1):=by unfold Cj;rw[h]
theorem Ck{base:Nat}{e:TypeId}{size:Nat}{v:Value}{n:Nat}{xs:List Value}{w:World}(h:w.ownsRow base e size v n xs){i:Nat}(hi:v.ownBlock=some i):Cj w i=some (e+1):=by
  rcases h.2 with ⟨rfl,-⟩ | ⟨g,cap,cur,rfl,b,a,-⟩
  · cases hi
  · obtain rfl:g=i:=Option.some.inj hi
    exact BF a
theorem MapF.tag{α β:Type}{ek:α→Value}{ev:β→Value}{D:α→Prop}{w:World}{b:Nat}{G:α→Option β}(h:MapF ek ev D w b G):Cj w b=some 0:=by
  obtain⟨es,c,h,-⟩:=h
  unfold Cj;rw[h]
theorem MapF.congr{α β:Type}{ek:α→Value}{ev ev' :β→Value}{D:α→Prop}{w:World}{b:Nat}{G:α→Option β}(h:MapF ek ev D w b G)(he:∀a y,G a=some y→ev' y=ev y):MapF ek ev' D w b G:=by
  obtain⟨es,c,h1,h2,h3⟩:=h
  exact⟨es,c,h1,⟨h2.keys,fun e he' =>by
    obtain⟨a,y,k1,k2,k3,k4⟩:=h2.ent e he'
    exact⟨a,y,k1,k2,k3.trans (he a y k4).symm,k4⟩,h2.all⟩,h3⟩
theorem MapF.chg{α β:Type}{ek:α→Value}{ev:β→Value}{D:α→Prop}{w w' :World}{b:Nat}{G:α→Option β}{B:Nat→Prop}(h:MapF ek ev D w b G)(hc:Chg B w w')(hB:¬B b):MapF ek ev D w' b G:=by
  obtain⟨es,c,h1,h2⟩:=h
  exact⟨es,c,(hc.blk b (bl h1) hB).trans h1,h2⟩
theorem Chg.keep{B:Nat→Prop}{w w1 a:World}(h:Chg B w w1)(k:Ext w1 a):Chg B w a:=h.trans (B' :=fun _=>False) (Chg.ofExt k) fun _ h=>h.elim
theorem Chg.set{B:Nat→Prop}{w w1 a:World}{g:Nat}(h:Chg B w w1)(k:w1.grownBy a (some g))(hg:B g∨w.heap.size≤g):Chg B w a:=h.trans (B' :=fun i=>i=g) (Chg.ofGrown k fun i e=> .inl (Option.some.inj e).symm) fun i e=>e▸hg
theorem Chg.grew{B:Nat→Prop}{w w1 a:World}{v v' :Value}(h:Chg B w w1)(k:Grew w1 a v v')(hv:∀i,v.ownBlock=some i→B i∨w.heap.size≤i):Chg B w a:=h.trans (B' :=fun i=>v.ownBlock=some i) (Chg.ofGrown k.by_ fun i e=> .inl e) hv
section
variable {base : Nat} {w w' : World} {H : Dk} {D : An}
theorem DkS.tg(h:DkS base w H D):Cj w H.g=some (52+1):=BF h.blk
theorem DkS.tF(h:DkS base w H D){k:Nat}(hk:k<D.files.length):Cj w (H.F k)=some (105+1):=BF (h.files.at_ k hk).blk
theorem DkS.tV(h:DkS base w H D){k:Nat}(hk:k<D.files.length){i:Nat}(hi:(H.V k).ownBlock=some i):Cj w i=some (5+1):=Ck (h.files.at_ k hk).row hi
theorem DkS.tA(h:DkS base w H D){i:Nat}(hi:H.va.ownBlock=some i):Cj w i=some (107+1):=by
  obtain⟨vs,hv⟩:=h.acts
  exact Ck hv.row hi
theorem CO{i:Nat}(h:Cj w i=some 0∨Cj w i=some (52+1)∨Cj w i=some (105+1)∨Cj w i=some (5+1)∨Cj w i=some (107+1)):TyB w i:=by
  unfold Cj at h
  cases hb:w.heap[i]? with
  | none=>rw[hb]at h;simp at h
  | some o=>
    rw[hb]at h
    cases o with
    | map es c=>exact .inl ⟨es,c,hb⟩
    | cells cs t fr=>
      refine .inr ⟨cs,t,fr,hb,?_⟩
      simp only[Option.some.injEq]at h
      rcases h with h | h | h | h | h
      · omega
      · exact .inl (Nat.succ.inj h)
      · exact .inr (.inl (Nat.succ.inj h))
      · exact .inr (.inr (.inl (Nat.succ.inj h)))
      · exact .inr (.inr (.inr (Nat.succ.inj h)))
    | _=>simp at h
theorem DkS.foot(h:DkS base w H D){i:Nat}(hi:A1 H D.files.length i):TyB w i∧i<w.heap.size∧base≤i:=by
  have lt:∀ {j:Nat} {x:Nat},Cj w j=some x→j<w.heap.size:=fun {j x} e=>by
    rcases Nat.lt_or_ge j w.heap.size with q | q
    · exact q
    · unfold Cj at e
      rw[Array.getElem?_eq_none q]at e
      cases e
  rcases hi with rfl | rfl | rfl | hi | ⟨k,hk,rfl | hi⟩
  · exact⟨CO (.inr (.inl h.tg)),lt h.tg,h.lo.1⟩
  · exact⟨CO (.inl h.now.tag),lt h.now.tag,h.lo.2.1⟩
  · exact⟨CO (.inl h.kept.tag),lt h.kept.tag,h.lo.2.2⟩
  · obtain⟨vs,hv⟩:=h.acts
    exact⟨CO (.inr (.inr (.inr (.inr (h.tA hi))))),lt (h.tA hi),(hv.row.lt i hi).1⟩
  · exact⟨CO (.inr (.inr (.inl (h.tF hk)))),lt (h.tF hk),(h.files.at_ k hk).lo⟩
  · exact⟨CO (.inr (.inr (.inr (.inl (h.tV hk hi))))),lt (h.tV hk hi),((h.files.at_ k hk).row.lt i hi).1⟩
theorem DkS.keepB{B:Nat→Prop}(h:DkS base w H D)(hc:Chg B w w')(hB:∀i,A1 H D.files.length i→¬B i)(hT:∀i,i<w.heap.size→B i→TyB w i):DkS base w' H D:=by
  obtain⟨vs,hv⟩:=h.acts
  exact⟨(hc.blk _ (bl h.blk) (hB _ (.inl rfl))).trans h.blk,h.now.chg hc (hB _ (.inr (.inl rfl))),h.kept.chg hc (hB _ (.inr (.inr (.inl rfl)))),h.ne,
    ⟨vs,CC hc hv.row (fun i hi=>hB i (.inr (.inr (.inr (.inl hi))))),hv.len,fun i hi=>(hv.at_ i hi).chg hc hT rfl⟩,
    h.files.chg hc (fun k hk=>⟨hB _ (.inr (.inr (.inr (.inr ⟨k,hk, .inl rfl⟩)))),fun i hi=>hB i (.inr (.inr (.inr (.inr ⟨k,hk, .inr hi⟩))))⟩),h.ok,h.lo⟩
theorem DkS.keep(h:DkS base w H D)(k:Ext w w'):DkS base w' H D:=h.keepB (B:=fun _=>False) (Chg.ofExt k) (fun _ _ q=>q) (fun _ _ q=>q.elim)
theorem DkS.setBlk(h:DkS base w H D)(hg:w.grownBy w' (some H.g)){q rf ar:Nat}{dn:Bool}(hb:w'.heap[H.g]? =some (.cells (FO q H.mn H.ml H.va rf ar dn).toArray 52 (0,0))):DkS base w' H { D with quota:=q,refused:=rf,arm:=ar,down:=dn } :=by
  have hc:Chg (fun i=>i=H.g) w w' :=Chg.ofGrown hg fun i e=> .inl (Option.some.inj e).symm
  have hT:∀i,i<w.heap.size→i=H.g→TyB w i:=fun i _ e=>e▸CO (.inr (.inl h.tg))
  obtain⟨vs,hv⟩:=h.acts
  have ne0:∀ {i x:Nat},Cj w i=some x→x≠52+1→i≠H.g:=fun e hx q=>by rw[q,h.tg]at e;exact hx (Option.some.inj e).symm
  exact⟨hb,h.now.chg hc (ne0 h.now.tag (by decide)),h.kept.chg hc (ne0 h.kept.tag (by decide)),h.ne,
    ⟨vs,CC hc hv.row (fun i hi=>ne0 (h.tA hi) (by decide)),hv.len,fun i hi=>(hv.at_ i hi).chg hc hT rfl⟩,
    h.files.chg hc (fun k hk=>⟨ne0 (h.tF hk) (by decide),fun i hi=>ne0 (h.tV hk hi) (by decide)⟩),⟨h.ok.now,h.ok.kept,h.ok.acts,h.ok.syn⟩,h.lo⟩
def Bz{α:Type}(F:Nat→α)(n:Nat)(x:α)(k:Nat):α:=if k=n then x else F k
theorem BJ{α:Type}(F:Nat→α){n k:Nat}(x:α)(h:k<n):Bz F n x k=F k:=if_neg (by omega)
theorem BW{α:Type}(F:Nat→α)(n:Nat)(x:α):Bz F n x n=x:=if_pos rfl
theorem Fc{α:Type}(F:Nat→α){n k:Nat}(x:α)(h:k≠n):Bz F n x k=F k:=if_neg h
theorem DkS.newFile(h:DkS base w H D)(hE:Ext w w'){f:Nat}(hf:w.heap.size≤f)(hb:w'.heap[f]? =some (.cells ([.slice none 0 0,NI 0]).toArray 105 (0,0)))(h0:base≤w.heap.size):
    DkS base w' { H with F:=Bz H.F D.files.length f,V:=Bz H.V D.files.length (.slice none 0 0) } { D with files:=D.files++ [([],0)] } :=by
  have h1:=h.keep hE
  obtain⟨vs,hv⟩:=h1.acts
  refine⟨h1.blk,h1.now.congr fun a y hy=> ?_,h1.kept.congr fun a y hy=> ?_,h1.ne,⟨vs,hv.row,hv.len,fun i hi=> ?_⟩,⟨fun k hk=> ?_,fun i j hi hj e=> ?_,fun i j hi hj hne x hx=> ?_⟩,h.ok.newFile _ (Nat.le_refl 0),h1.lo⟩
  · show PQ (Bz _ _ _ _) 0=_
    rw[BJ _ _ (h.ok.now.look hy).1]
  · show PQ (Bz _ _ _ _) 0=_
    rw[BJ _ _ (h.ok.kept.look hy).1]
  · refine(hv.at_ i hi).chg (B:=fun _=>False) (Chg.refl _ _) (fun _ _ q=>q.elim) (BJ _ _ ?_)
    exact(h.ok.acts _ (by rw[List.getD_eq_getElem?_getD,List.getElem?_eq_getElem hi];exact List.getElem_mem hi)).num
  · rw[List.length_append,List.length_singleton]at hk
    by_cases e:k=D.files.length
    · subst e
      show FileAt base w' (Bz _ _ _ _) (Bz _ _ _ _) _
      rw[BW,BW,List.getD_eq_getElem?_getD,List.getElem?_append_right (Nat.le_refl _),Nat.sub_self]
      exact⟨hb,World.ownsRow_nil _ _ _ 1,by omega⟩
    · have hk' :k<D.files.length:=by omega
      show FileAt base w' (Bz _ _ _ _) (Bz _ _ _ _) _
      rw[BJ _ _ hk',BJ _ _ hk',List.getD_eq_getElem?_getD,List.getElem?_append_left hk',←List.getD_eq_getElem?_getD]
      exact h1.files.at_ k hk'
  · rw[List.length_append,List.length_singleton]at hi hj
    have lt:∀k,k<D.files.length→H.F k<w.heap.size:=fun k hk=>(h.foot (.inr (.inr (.inr (.inr ⟨k,hk, .inl rfl⟩))))).2.1
    by_cases ei:i=D.files.length <;> by_cases ej:j=D.files.length
    · omega
    · exfalso
      have e:Bz H.F D.files.length f i=Bz H.F D.files.length f j:=e
      rw[ei,BW,BJ _ _ (by omega:j<D.files.length)]at e
      have:=lt j (by omega)
      omega
    · exfalso
      have e:Bz H.F D.files.length f i=Bz H.F D.files.length f j:=e
      rw[ej,BW,BJ _ _ (by omega:i<D.files.length)]at e
      have:=lt i (by omega)
      omega
    · have e:Bz H.F D.files.length f i=Bz H.F D.files.length f j:=e
      rw[BJ _ _ (by omega:i<D.files.length),BJ _ _ (by omega:j<D.files.length)]at e
      exact h.files.inj i j (by omega) (by omega) e
  · rw[List.length_append,List.length_singleton]at hi hj
    have hx:(Bz H.V D.files.length (.slice none 0 0) i).ownBlock=some x:=hx
    show(Bz H.V D.files.length (.slice none 0 0) j).ownBlock≠some x
    by_cases ei:i=D.files.length
    · rw[ei,BW]at hx;cases hx
    · by_cases ej:j=D.files.length
      · rw[ej,BW];exact fun q=>by cases q
      · rw[BJ _ _ (by omega:i<D.files.length)]at hx
        rw[BJ _ _ (by omega:j<D.files.length)]
        exact h.files.apart i j (by omega) (by omega) hne x hx
theorem DkS.setFile(h:DkS base w H D){k:Nat}(hk:k<D.files.length){v:Value}{x:List UInt8 × Nat}(hx:x.2≤x.1.length)(hc:Chg (fun i=>i=H.F k∨(H.V k).ownBlock=some i) w w')(hf:FileAt base w' (H.F k) v x)(hv:∀i,v.ownBlock=some i→(H.V k).ownBlock=some i∨w.heap.size≤i):
    DkS base w' { H with V:=Bz H.V k v } { D with files:=D.files.set k x } :=by
  have hT:∀i,i<w.heap.size→(i=H.F k∨(H.V k).ownBlock=some i)→TyB w i:=fun i _ e=>e.elim (fun e=>e▸CO (.inr (.inr (.inl (h.tF hk))))) fun e=>CO (.inr (.inr (.inr (.inl (h.tV hk e)))))
  obtain⟨vs,hvs⟩:=h.acts
  have ne0:∀ {i x:Nat},Cj w i=some x→x≠105+1→x≠5+1→¬(i=H.F k∨(H.V k).ownBlock=some i):=fun e h1 h2 q=>q.elim (fun q=>by rw[q,h.tF hk]at e;exact h1 (Option.some.inj e).symm) fun q=>by rw[h.tV hk q]at e;exact h2 (Option.some.inj e).symm
  have off:∀j,j<D.files.length→j≠k→¬(H.F j=H.F k∨(H.V k).ownBlock=some (H.F j))∧∀i,(H.V j).ownBlock=some i→¬(i=H.F k∨(H.V k).ownBlock=some i):=fun j hj hne=>
    ⟨fun q=>q.elim (fun q=>hne (h.files.inj j k hj hk q)) fun q=>by have:=h.tV hk q;rw[h.tF hj]at this;exact absurd (Option.some.inj this) (by decide),
     fun i hi q=>q.elim (fun q=>by have:=h.tV hj hi;rw[q,h.tF hk]at this;exact absurd (Option.some.inj this) (by decide)) fun q=>h.files.apart j k hj hk hne i hi q⟩
  refine⟨(hc.blk _ (bl h.blk) (ne0 h.tg (by decide) (by decide))).trans h.blk,h.now.chg hc (ne0 h.now.tag (by decide) (by decide)),h.kept.chg hc (ne0 h.kept.tag (by decide) (by decide)),h.ne,
    ⟨vs,CC hc hvs.row (fun i hi=>ne0 (h.tA hi) (by decide) (by decide)),hvs.len,fun i hi=>(hvs.at_ i hi).chg hc hT rfl⟩,⟨fun j hj=> ?_,fun i j hi hj e=> ?_,fun i j hi hj hne y hy=> ?_⟩,h.ok.setFile k x hx,h.lo⟩
  · rw[List.length_set]at hj
    by_cases e:j=k
    · subst e
      show FileAt base w' (H.F j) (Bz _ _ _ _) _
      rw[BW,List.getD_eq_getElem?_getD,List.getElem?_set_self hj]
      exact hf
    · show FileAt base w' (H.F j) (Bz _ _ _ _) _
      rw[Fc _ _ e,List.getD_eq_getElem?_getD,List.getElem?_set_ne (fun q=>e q.symm),←List.getD_eq_getElem?_getD]
      exact(h.files.at_ j hj).keep hc (off j hj e).1 (off j hj e).2
  · rw[List.length_set]at hi hj
    exact h.files.inj i j hi hj e
  · rw[List.length_set]at hi hj
    have hy:(Bz H.V k v i).ownBlock=some y:=hy
    show(Bz H.V k v j).ownBlock≠some y
    by_cases ei:i=k
    · have ej:j≠k:=fun q=>hne (ei.trans q.symm)
      rw[ei,BW]at hy
      rw[Fc _ _ ej]
      intro q
      rcases hv y hy with r | r
      · exact h.files.apart j k hj hk ej y q r
      · have:=(h.foot (.inr (.inr (.inr (.inr ⟨j,hj, .inr q⟩))))).2.1
        omega
    · rw[Fc _ _ ei]at hy
      by_cases ej:j=k
      · rw[ej,BW]
        intro q
        rcases hv y q with r | r
        · exact h.files.apart i k hi hk ei y hy r
        · have:=(h.foot (.inr (.inr (.inr (.inr ⟨i,hi, .inr hy⟩))))).2.1
          omega
      · rw[Fc _ _ ej]
        exact h.files.apart i j hi hj hne y hy
end
open Go.RowKit
abbrev B1(s:List UInt8):List Value:= [St s]
abbrev DF(v:Value):List Value:= [v]
theorem O6(l:List (List UInt8)):l.flatMap B1=l.map St:=by
  induction l with
  | nil=>rfl
  | cons a l ih=>rw[List.flatMap_cons,List.map_cons,ih];rfl
theorem enV_flat(l:List Value):l.flatMap DF=l:=by
  induction l with
  | nil=>rfl
  | cons a l ih=>rw[List.flatMap_cons,ih];rfl
section
variable {P : Program} {K : Value → World → Prop} {ρ : Ai} {w : World} {d : Option Tmp} {ty : TypeId} {pos : String} {af : Array Edge} {gd : Option (Nat × Bool)}
theorem Yk.lit1S{α:Type}{enc:α→List Value}{t e:TypeId}{x:Operand}{a:α}{u:Value}(hx:Ab ρ x=u)(hu:enc a= [u]) 
    (hr:∀w:World,(Instr.buildSlice t 1 #[(0,u)]).run P w = .ok (.slice (some ⟨w.heap.size,0,none⟩) 1 1) (w.alloc (.cells #[u] e)))
    (hk:∀v w',RG 1 enc w' v [a]→Ext w w' →K v w'):Yk P K ((execOp (Ab ρ) ⟨d, .buildSlice t 1 #[(0,x)],ty,pos,af,gd⟩).run P w):=by
  have hE:Ext w (w.alloc (.cells #[u] e)):=(Below.refl _ _).alloc (Nat.le_refl _) _
  have hb:(w.alloc (.cells #[u] e)).heap[w.heap.size]? =some (.cells ([u]:List Value).toArray e (0,0)):=heap_alloc_new w _
  refine Yk.value (v:= .slice (some ⟨w.heap.size,0,none⟩) 1 1) (w' :=w.alloc (.cells #[u] e)) ?_ (hk _ _ ⟨fun y hy=>by rw[List.mem_singleton.1 hy,hu];rfl,by simp[hu],_,1,rfl,Nat.le_refl _,by simp[maxLen],(fun hq=>by cases hq),fun q hq j z hz=> ?_⟩ hE)
  · unfold execOp
    simp only[List.map_toArray,List.map_cons,List.map_nil,hx,Sem.run_bind,hr,Result.andThen_ok,Sem.run_pure]
  · cases hq
    rw[Addr.add_lit,Nat.zero_add]
    exact cellAt hb (by simpa [hu] using hz)
end
open Go.RowKit
set_option maxRecDepth 100000
set_option linter.unusedVariables false
abbrev DG(n:Int):List Value:= [.int .i64 n]
def readyL(d:An)(l:List (List UInt8)):Nat:=if d.down=true then 9 else if l.all Bu=true then 0 else 10
theorem GQ{d:An}{l:List (List UInt8)}(h:d.down=true):readyL d l=9:=if_pos h
theorem IL{d:An}{l:List (List UInt8)}(h:d.down=false)(h2:l.all Bu=true):readyL d l=0:=(if_neg (by rw[h];decide)).trans (if_pos h2)
theorem Md{d:An}{l:List (List UInt8)}{i:Nat}(h:d.down=false)(hi:i<l.length)(hm:Bu (l.getD i [])=false):readyL d l=10:=by
 refine(if_neg (by rw[h];decide)).trans (if_neg fun ha=> ?_)
 have:=List.all_eq_true.1 ha (l.getD i []) (by rw[List.getD_eq_getElem?_getD,List.getElem?_eq_getElem hi];exact List.getElem_mem hi)
 rw[hm]at this;cases this
theorem O7{l:List (List UInt8)}{i:Nat}(hi:i<l.length)(h:(l.take i).all Bu=true)(hm:Bu (l.getD i [])=true):(l.take (i+1)).all Bu=true:=by
 rw[List.take_succ_eq_append_getElem hi,List.all_append,h]
 rw[List.getD_eq_getElem?_getD,List.getElem?_eq_getElem hi]at hm
 simpa using hm
theorem Io:Tryz.prog.underlying 9=some (.string):=by kernel_rfl
theorem JU:Tryz.prog.underlying 24=some (.pointer 52):=by kernel_rfl
theorem Me:A3 Tryz.prog 52 6 6:=fun b o w=>by simp[go_sem]
theorem Q3:Tryz.prog.underlying 4=some (.bool):=by kernel_rfl
theorem JV:Tryz.prog.underlying 39=some (.slice 9):=by kernel_rfl
theorem O8:∀w' :World,(sizeOf 9).run Tryz.prog w' = .ok 1 w' :=fun _=>by kernel_rfl
theorem O9:Plain Tryz.prog 68:=fun _ _=>by kernel_rfl
set_option maxHeartbeats 1600000
theorem Q4(w:World)(s:List UInt8):
  Calls Tryz.prog 68 #[St s] w fun e w' =>e = .returned (.bool (Bu s))∧Ext w w' :=by
 refine S1 (args:= [St (s)]) Tryz.func68 rfl 11 rfl rfl ?_
 have hE:=Ext.refl w
 refine gS (Yk.lenSt (l:=s) Io rfl (gS (Yk.eqI (a:=(s.length:Nat)) (b:=(1:Nat)) rfl rfl (CX _ _ _ _) (gO fun _=>B6 (St (s)) rfl rfl (gT rfl) (fun hG3=>Yk.move rfl ⟨rfl,rfl⟩) (Et (gO fun _=>B6 (NI s.length) rfl rfl (gT rfl) (fun hG4=>Yk.lenSt (l:=s) Io (Ef rfl hG4) ⟨rfl,rfl⟩) (Et (gO fun _=>B6 (.bool (decide ((s.length)≤(80)))) rfl rfl (gT rfl) (fun hG5=>Yk.eqI (a:=((s.length:Nat):Int)) (b:=((80:Nat):Int)) (Ef rfl hG5) rfl (Ey _ .i64 (s.length) (80)) ⟨rfl,rfl⟩) (Et (gS (Yk.pickAndN rfl (fun hA=>(Ef rfl hA)) rfl fun bb6 hbb7=>(AX rfl (vr (.bool (bb6)) rfl) ?_))))))))))))
 subst hbb7
 exact⟨rfl,hE⟩

theorem F9(w:World)(v:Value)(l:List (List UInt8))(hr:RG 1 B1 w v l):
  Calls Tryz.prog 31 #[.pointer none,v] w fun e w' =>e = .returned (NI 1)∧Ext w w' :=by
 refine gG (args:= [.pointer none,v]) Tryz.func31 rfl 23 rfl rfl ?_
 have hE:=Ext.refl w
 refine gS (Yk.eqlNil JU rfl (cT rfl (AX rfl (vr (NI 1) rfl) ?_)))
 exact⟨rfl,hE⟩

theorem Dr(base:Nat)(w:World)(H:Dk)(D:An)(hS:DkS base w H D)(v:Value)(l:List (List UInt8))(hr:RG 1 B1 w v l)(hl:l.length<4611686018427387904):
  Calls Tryz.prog 31 #[PQ H.g 0,v] w fun e w' =>e = .returned (NI (readyL D l))∧Ext w w' :=by
 have hb:=hS.blk
 have hgl:=(bl hb)
 refine gG (args:= [PQ H.g 0,v]) Tryz.func31 rfl 23 rfl rfl ?_
 have hE:=Ext.refl w
 refine gS (Yk.eqlNil JU rfl (cF rfl (gS (Yk.nilCheck rfl (gS (Yk.fieldAt Me rfl (gS (Yk.cell1 Q3 rfl rfl (cellAt hb rfl) ?_))))))))
 refine cB (D.down) rfl (fun c=> ?_) fun c=> ?_
 ·refine AX rfl (vr (NI 9) rfl) ?_
  exact⟨by rw[GQ (by simpa using c)],hE⟩
 refine gS (Yk.lenRG JV (RG.of hr rfl) (gL (fun(ρ:Ai) (wz:World)=>∃i:Nat,ρ 0=(PQ H.g 0:Value)∧ρ 1=(v:Value)∧ρ 8=(.bool (false):Value)∧ρ 13=(v:Value)∧ρ 14=(NI l.length:Value)∧ρ 15=(NI i:Value)∧RG 1 B1 wz v l∧wz.heap[H.g]? =some (.cells (FO (D.quota) (H.mn) (H.ml) (H.va) (D.refused) (D.arm) (D.down)).toArray 52 (0,0))∧Ext w wz∧(i≤l.length)∧((l.take i).all Bu=true)∧True) (fun ρ _=>l.length-(intOf (ρ 15)).toNat) ⟨0,rfl,rfl,rfl,rfl,rfl,rfl,hr,hb,hE,Nat.zero_le _,rfl,trivial⟩ ?_))
 clear hr hb hE
 rintro p t ⟨i,q,r,s,k,m,f,hr,hb,hE,hi,hn,-⟩
 have q15:=f
 refine gS (Yk.eqI (a:=(i:Nat)) (b:=(l.length:Nat)) f m (AO _ _ _ _) ?_)
 refine cD rfl (fun n=> ?_) fun n=> ?_
 ·have hlt:i<l.length:=n
  have u:(B1 (l.getD (i) ([]:List UInt8))).length=1:=(RG.elem hr ([]:List UInt8) (by omega))
  refine gS (Yk.atRG JV O8 (by decide) ([]:List UInt8) (RG.of hr k) f (by omega) fun x o=>(gS (Yk.loadC Io rfl (PR.cell (PR.of o rfl) rfl) ?_)))
  clear o
  refine gS (Yk.callA1 O9 rfl ((Q4 _ (l.getD (i) ([]:List UInt8))).mono ?_))
  rintro e y ⟨rfl,h⟩
  refine⟨_,rfl,?_⟩
  refine gS (Yk.notB rfl ?_)
  refine cB (!(Bu (l.getD (i) ([]:List UInt8)))) rfl (fun j=> ?_) fun j=> ?_
  ·have hm:Bu (l.getD i [])=false:=by simpa using j
   refine AX rfl (vr (NI 10) rfl) ?_
   have hE:=hE.trans h
   exact⟨by rw[Md (by simpa using c) hlt hm],hE⟩
  have hm:Bu (l.getD i [])=true:=by simpa using j
  have hr:=hr.keep h
  have hb:=eb h hb
  have hE:=hE.trans h
  refine gS (Yk.bin (xv:=NI i) (yv:=NI 1) f rfl rfl (Ap _ _ _ (by omega)) (gK (And.intro ⟨i+1,q,r,s,k,m,rfl,hr,hb,hE,by omega,O7 hlt hn hm,trivial⟩ ?_)))
  show l.length-(intOf (NI ((i)+(1)))).toNat<l.length-(intOf (p 15)).toNat
  rw[q15]
  simp only[intOf,Int.toNat_natCast];omega
 refine AX rfl (vr (NI 0) rfl) ?_
 exact⟨by rw[IL (by simpa using c) (by rw[List.take_of_length_le (by omega)]at hn;exact hn)],hE⟩
open Go.RowKit
set_option maxRecDepth 100000
set_option linter.unusedVariables false
set_option linter.unusedSimpArgs false
theorem Na{n:Nat}{l:Ba}(h:DirOk n l):(l.map Prod.fst).Nodup:=
 List.Pairwise.map _ (fun a b q e=>by rw[e,EW]at q;cases q) h.sort
theorem Q5{n:Nat}{l:Ba}(h:DirOk n l)(a:List UInt8)(y:Nat):AD l a=some y↔(a,y)∈l:=⟨ED,fun q=>Im h.sort q⟩
theorem Pa{α:Type}(f:α→Nat){l:List α}{a:α}{r:List α}(h:l.Perm (a :: r)):(l.map f).sum=f a+(r.map f).sum:=by
 have:=(h.map f).sum_nat
 rw[this,List.map_cons,List.sum_cons]
theorem Mf:A3 Tryz.prog 52 1 1:=fun b o w=>by simp[go_sem]
theorem JW:Tryz.prog.underlying 49=some (.map 9 81):=by kernel_rfl
theorem K9:A3 Tryz.prog 105 0 0:=fun b o w=>by simp[go_sem]
set_option maxHeartbeats 1600000
theorem Ly(base:Nat)(w:World)(H:Dk)(D:An)(hS:DkS base w H D)(hU:usedD D<4611686018427387904):
  Calls Tryz.prog 53 #[PQ H.g 0] w fun e w' =>e = .returned (NI (usedD D))∧Ext w w' :=by
 have hb:=hS.blk
 have hgl:=(bl hb)
 refine gG (args:= [PQ H.g 0]) Tryz.func53 rfl 23 rfl rfl ?_
 have hE:=Ext.refl w
 refine gS (Yk.nilCheck rfl (gS (Yk.fieldAt Mf rfl (gS (Yk.cell1 JW rfl rfl (cellAt (eb hE hb) rfl) (gS (Yk.rangeM (fun a c=>Dq) JW rfl (hS.keep hE).now (Na hS.ok.now) (Q5 hS.ok.now) fun b u v j l x=> ?_)))))))
 have hI11:=j;clear j
 have hgi:=MIt.lt hI11
 have hE:=hE.trans l
 refine gL (fun(ρ:Ai) (wz:World)=>∃left:List (List UInt8 × Nat),∃s:Nat,ρ 0=(PQ H.g 0:Value)∧ρ 2=(NI 0:Value)∧ρ 10=(PQ b 0:Value)∧ρ 3=(NI s:Value)∧Ext w wz∧MIt St (pF H.F) wz b H.mn left∧(∀p∈left,p∈D.now)∧(s+(left.map fun e=>(AJ D e.2).1.length).sum=usedD D)∧True) (fun ρ wz=>World.mleft wz b) ⟨D.now,0,rfl,rfl,rfl,rfl,hE,hI11,fun p hp=>hp,Nat.zero_add _,trivial⟩ ?_
 clear hI11
 clear hE
 rintro y m ⟨left,s,n,o,f,k,hE,hI,hsub,htot,-⟩
 by_cases i:left= []
 ·refine gS (Yk.nextEndM f hI i (gS (Yk.extract (vs:= [.bool (false)]) rfl rfl (cF rfl (AX rfl k ?_)))))
  exact⟨by rw[i]at htot;rw[←htot];rfl,hE⟩
 refine gS (Yk.nextInM f hI i fun a18 y19 rest20 q h hI23 r t z=> ?_)
 have hm0:=MIt.mleft hI
 have hE:=Aa hE t (Nat.le_trans (Nat.le_refl _) (by omega))
 clear hI
 have hI:=hI23;clear hI23
 have hgi:=MIt.lt hI
 have hmem:(a18,y19)∈D.now:=hsub _ (h.mem_iff.2 List.mem_cons_self)
 have hyl:=hS.ok.now.num _ hmem
 have hfl:=hS.files.at_ y19 hyl
 have hsum:(left.map fun e=>(AJ D e.2).1.length).sum=(D.files.getD y19 ([],0)).1.length+(rest20.map fun e=>(AJ D e.2).1.length).sum:=Pa _ h
 have hfb:=hfl.blk
 have hfr:RB w (H.V y19) (D.files.getD y19 ([],0)).1:=RB.ofOwn hfl.row
 refine gS (Yk.extract (vs:= [.bool (true),St (a18), .pointer (some ⟨(H.F y19),0,none⟩)]) rfl rfl (cT rfl (gS (Yk.entryM f r (gS (Yk.extract (vs:= [St (a18), .pointer (some ⟨(H.F y19),0,none⟩)]) rfl rfl (gS (Yk.nilCheck rfl (gS (Yk.fieldAt K9 rfl (gS (Yk.cell1 S2 rfl rfl (cellAt (eb hE hfb) rfl) (gS (Yk.lenRB S2 (RB.of (hfr.keep hE) rfl) (gS (Yk.bin (xv:=NI s) (yv:=NI (((D.files.getD y19 ([],0)).1:List UInt8).length)) k rfl rfl (Ap _ _ _ (by have:=hU;rw[hsum]at htot;omega)) (gK (And.intro ⟨rest20,s+(D.files.getD y19 ([],0)).1.length,n,o,f,rfl,hE,hI,fun p hp=>hsub p (h.mem_iff.2 (List.mem_cons_of_mem _ hp)),by rw[hsum]at htot;exact(Nat.add_assoc _ _ _).trans htot,trivial⟩ ?_))))))))))))))))))
 show World.mleft q b<World.mleft m b
 rw[MIt.mleft hI,hm0,h.length_eq];simp
open Go.RowKit
section
variable {P : Program} {K : Value → World → Prop} {ρ : Ai} {w : World} {d : Option Tmp} {ty : TypeId} {pos : String} {af : Array Edge} {gd : Option (Nat × Bool)}
theorem HG(w:World)(t tx ty e:TypeId)(i:TypeInfo)(z:Value)(size bytes:Nat)(ht:P.underlying t=some (.slice e))(hi:P.info? e=some i)(hz:i.zero=some z) 
    (hsize:i.size=size) (hby:i.bytes=bytes) (hzs:z.cells.size=size) (a:Addr) (n:Nat) (xs:List Value) (hxs:xs.length=n*size) (hc:∀j u,xs[j]? =some u→w.cell? (a.add j)=some u)
    (x:Value) (m:Nat) (news:List Value) (hs:Src P size tx x m news w) (hm:0<m) (h63:n+m≤maxLen) (hbytes:(n+m)*bytes≤140737488355328):
    ∃v' w',(Builtin.append_ #[t,tx] ty #[.slice (some a) n n,x]).run P w = .ok v' w' ∧w'.ownsRow w.heap.size e size v' (n+m) (xs++news)∧Ext w w' :=by
  subst hsize
  subst hby
  have hsmall:n+m≤9223372036854775807:=by simp only[maxLen]at h63;omega
  have hl:=hs.newsLen
  have hlen:(xs++news).length=(n+m)*i.size:=by rw[List.length_append,hxs,hl,Nat.add_mul]
  have hge:=grownCap_ge w (n+m) n e
  have hcm:grownCap w (n+m) n e≤maxLen:=grownCap_le_maxLen w (n+m) n e h63
  have hr:=run_append_grow_src (P:=P) w t tx ty e i z ht hi hz (some a) n n xs (run_firstCells_some w.drew i.size n a n n xs hxs (by simpa using hc)) x m news hs (by omega) (by omega) (growslice_fits (by omega) hbytes)
  refine⟨_,_,hr,⟨hlen, .inr ⟨w.heap.size,_,_,rfl,Nat.le_refl _,heap_alloc_new w.drew _,hge,hcm,?_,?_⟩⟩,(Below.refl _ _).grown ((Grew.refl w (Value.slice none 0 0)).drew.alloc _).by_ (Nat.le_refl _) (fun _ e=>by simp[Value.ownBlock]at e)⟩
  · simp only[Array.size_append,List.size_toArray,size_zeroCells,hzs,hlen,←Nat.add_mul]
    congr 1
    omega
  · simp only[Array.toList_append]
    rw[←hlen]
    exact List.take_left
def FullG{α:Type}(k:Nat)(enc:α→List Value)(w:World)(v:Value)(l:List α):Prop:=(v = .slice none 0 0∧l= [])∨∃a,v = .slice (some a) l.length l.length∧RG k enc w v l
theorem FullG.keep{α:Type}{k:Nat}{enc:α→List Value}{w w' :World}{v:Value}{l:List α}(h:FullG k enc w v l)(hE:Ext w w'):FullG k enc w' v l:=h.imp id fun⟨a,h1,h2⟩=>⟨a,h1,h2.keep hE⟩
theorem FullG.rg{α:Type}{k:Nat}{enc:α→List Value}{w:World}{v:Value}{l:List α}(h:FullG k enc w v l):RG k enc w v l:=by
  rcases h with ⟨rfl,rfl⟩ | ⟨a,h1,h2⟩
  · exact RG.nil _ _ _
  · exact h2
theorem Yk.appendFull{α:Type}{k:Nat}{enc:α→List Value}{t tx e e' :TypeId}{z:Value}{bytes:Nat}(ht:P.underlying t=some (.slice e))(hi:(P.info? e).map (fun i=>(i.zero,i.size,i.bytes))=some (some z,k,bytes))(hzs:z.cells.size=k)(hu:P.underlying tx=some (.slice e')) 
    (h1:∀x:α,∀u∈enc x,u.oneCell' =true) {s x:Operand} {v y:Value} {l m:List α} (hs:Ab ρ s=v) (h:FullG k enc w v l) (hx:Ab ρ x=y) (hy:RG k enc w y m) (hm:0<m.length) (hlen:(l.length+m.length)*bytes≤140737488355328) (hlen2:l.length+m.length≤maxLen)
    (hk:∀v' w',OG w.heap.size e k enc w' v' (l++m)→Ext w w' →K v' w'):Yk P K ((execOp (Ab ρ) ⟨d, .call ⟨.builtin .append,#[s,x],#[t,tx]⟩,ty,pos,af,gd⟩).run P w):=by
  obtain⟨i,hi0,hi1⟩:=Option.map_eq_some_iff.1 hi
  have hz:i.zero=some z:=congrArg Prod.fst hi1
  have hsz:i.size=k:=congrArg (fun q=>q.2.1) hi1
  have hby:i.bytes=bytes:=congrArg (fun q=>q.2.2) hi1
  have hsrc:Src P k tx y m.length (m.flatMap enc) w:=by
    obtain⟨q1,q2,ao,cap,rfl,q3,q4,q5,q6⟩:=hy
    cases ao with
    | none=>exact absurd (q5 rfl).1 (by omega)
    | some a=>exact Src.ofSlice w hu a _ cap _ q2 (q6 a rfl) fun u hu=>let ⟨x,_,hx⟩:=List.mem_flatMap.1 hu;h1 x u hx
  have hlen' :∀ {xs:List α},(∀x∈xs,(enc x).length=k)→(xs.flatMap enc).length=xs.length*k:=fun {xs} hxs=>by
    induction xs with
    | nil=>simp
    | cons a r ih=>rw[List.flatMap_cons,List.length_append,hxs a List.mem_cons_self,ih fun x hx=>hxs x (List.mem_cons_of_mem _ hx),List.length_cons,Nat.add_mul,Nat.one_mul,Nat.add_comm]
  have hall:∀x∈l++m,(enc x).length=k:=fun x hx=>(List.mem_append.1 hx).elim (h.rg.1 x) (hy.1 x)
  have fin:∀v' w',(Builtin.append_ #[t,tx] ty #[v,y]).run P w = .ok v' w' →w'.ownsRow w.heap.size e k v' (l.length+m.length) (l.flatMap enc++m.flatMap enc)→Ext w w' →Yk P K ((execOp (Ab ρ) ⟨d, .call ⟨.builtin .append,#[s,x],#[t,tx]⟩,ty,pos,af,gd⟩).run P w):=fun v' w' hr ho hE=>by
    refine Yk.value (v:=v') (w' :=w') ?_ (hk v' w' ⟨hall,by rw[List.length_append,List.flatMap_append];exact ho⟩ hE)
    unfold execOp
    simp only[resolve,invoke,builtin,Sem.run_bind,Sem.run_pure,Result.andThen_ok,List.map_toArray,List.map_cons,List.map_nil,hs,hx,hr]
  rcases h with ⟨rfl,rfl⟩ | ⟨a,hv,hr⟩
  · obtain⟨v',w',hr,ho,hg⟩:=Ee (P:=P) w w.heap.size t tx ty e i z k bytes ht hi0 hz hsz hby hzs (.slice none 0 0) 0 [] (World.ownsRow_nil _ _ _ _) y m.length _ hsrc (by simpa using hlen2) (by simpa using hlen) (Nat.le_refl _)
    exact fin v' w' hr (by simpa using ho) ((Below.refl _ _).grown hg.by_ (Nat.le_refl _) fun _ q=>by simp[Value.ownBlock]at q)
  · obtain⟨-,q2,ao,cap,q3,-,-,-,q6⟩:=id hr
    rw[hv]at q3
    cases q3
    obtain⟨v',w',hr',ho,hE⟩:=HG (P:=P) (ty:=ty) w t tx e i z k bytes ht hi0 hz hsz hby hzs a l.length _ q2 (q6 a rfl) y m.length _ hsrc hm hlen2 hlen
    exact fin v' w' (by rw[hv];exact hr') ho hE
end
open Go.RowKit
set_option maxRecDepth 100000
set_option linter.unusedVariables false
set_option linter.unusedSimpArgs false
theorem E4:KL Tryz.prog 9 (MapKept.IsKey .string):=KL.ofKey (by kernel_rfl)
theorem En(a:List UInt8)(_:Nm a):MapKept.IsKey .string (St a):=trivial
theorem Fu(u:World):(zeroValue 81).run Tryz.prog u = .ok (.pointer none) u:=by kernel_rfl
def DH(d:An)(ms:List (List UInt8))(s:List UInt8):Except Nat Nat:=if readyL d (ms++ [s])≠0 then .error (readyL d (ms++ [s]))else match AD d.now s with | some k=> .ok k | none=> .error 4
def S5(H:Dk):Except Nat Nat→Value
 | .ok k=>PQ (H.F k) 0
 | .error _=> .pointer none
def S6:Except Nat Nat→Nat
 | .ok _=>0
 | .error e=>e
theorem Mg{d:An}{ms:List (List UInt8)}{s:List UInt8}(h:readyL d (ms++ [s])=0):Bu s=true:=by
 unfold readyL at h
 split at h
 ·cases h
 ·split at h
  ·rename_i h2
   rw[List.all_append]at h2
   simp only[Bool.and_eq_true,List.all_cons,List.all_nil,Bool.and_true]at h2
   exact h2.2
  ·cases h
theorem Fv(z:ByteArray)(w:World):(Instr.buildSlice 39 1 #[(0, .string z)]).run Tryz.prog w = .ok (.slice (some ⟨w.heap.size,0,none⟩) 1 1) (w.alloc (.cells #[.string z] 9)):=by kernel_rfl
theorem GH:(Tryz.prog.info? 9).map (fun i=>(i.zero,i.size,i.bytes))=some (some (.string ⟨#[]⟩),1,16):=by kernel_rfl
theorem Fw:Plain Tryz.prog 31:=fun _ _=>by kernel_rfl
theorem JX:Tryz.prog.underlying 81=some (.pointer 105):=by kernel_rfl
set_option maxHeartbeats 1600000
theorem Fd(base:Nat)(w:World)(H:Dk)(D:An)(hS:DkS base w H D)(s:List UInt8)(v:Value)(ms:List (List UInt8))(hF:FullG 1 B1 w v ms)(hl:ms.length≤1):
  Calls Tryz.prog 83 #[PQ H.g 0,St s,v] w fun e w' =>e = .returned (.tuple #[S5 H (DH D ms s),NI (S6 (DH D ms s))])∧Ext w w' :=by
 have hb:=hS.blk
 have hgl:=(bl hb)
 refine gG (args:= [PQ H.g 0,St (s),v]) Tryz.func83 rfl 28 rfl rfl ?_
 have hE:=Ext.refl w
 by_cases c:readyL D (ms++ [s])≠0
 ·have hV:DH D ms s = .error (readyL D (ms++ [s])):=if_pos c
  refine gS (Yk.lit1S (a:=s) (enc:=B1) (vr (St (s)) rfl) rfl (fun w=>Fv _ w) fun n w5 o p=> ?_)
  have hE:=hE.trans p
  refine gS (Yk.appendFull JV GH rfl JV (fun y u hu=>by rw[List.mem_singleton.1 hu];rfl) (vr v rfl) (hF.keep hE) (vr n rfl) o (by simp) (by simp;omega) (by simp[maxLen];omega) fun q w9 r t=> ?_)
  have ak:=hE.size
  have hE:=hE.trans t
  refine gS (Yk.callA2 Fw rfl rfl ((Dr base _ H D (hS.keep hE) q (ms++ [s]) (RG.ofOwn r) (by simp;omega)).mono ?_))
  rintro e al ⟨rfl,x⟩
  refine⟨_,rfl,?_⟩
  refine gS (Yk.eqI (a:=(readyL D (ms++ [s]):Nat)) (b:=(0:Nat)) rfl rfl (AZ _ _ _ _) (kT (by omega) (cT rfl (Dh rfl (vr (.pointer none) rfl) (vr (NI (readyL D (ms++ [s]))) rfl) ?_))))
  have hE:=hE.trans x
  exact⟨by rw[hV];rfl,hE⟩
 have z:readyL D (ms++ [s])=0:=Classical.not_not.1 c
 have hm:=Mg z
 rcases hlk:AD D.now s with _ | k
 ·have hV:DH D ms s = .error 4:=by unfold DH;rw[if_neg c,hlk]
  refine gS (Yk.lit1S (a:=s) (enc:=B1) (vr (St (s)) rfl) rfl (fun w=>Fv _ w) fun aa am ab f=> ?_)
  have hE:=hE.trans f
  refine gS (Yk.appendFull JV GH rfl JV (fun y u hu=>by rw[List.mem_singleton.1 hu];rfl) (vr v rfl) (hF.keep hE) (vr aa rfl) ab (by simp) (by simp;omega) (by simp[maxLen];omega) fun ac an ad h=> ?_)
  have ao:=hE.size
  have hE:=hE.trans h
  refine gS (Yk.callA2 Fw rfl rfl ((Dr base _ H D (hS.keep hE) ac (ms++ [s]) (RG.ofOwn ad) (by simp;omega)).mono ?_))
  rintro e ap ⟨rfl,i⟩
  refine⟨_,rfl,?_⟩
  have hb:=eb ((f.trans h).trans i) hb
  have hE:=hE.trans i
  refine gS (Yk.eqI (a:=(readyL D (ms++ [s]):Nat)) (b:=(0:Nat)) rfl rfl (AZ _ _ _ _) (kF (by omega) (cF rfl (gS (Yk.nilCheck rfl (gS (Yk.fieldAt Mf rfl (gS (Yk.cell1 JW rfl rfl (cellAt hb rfl) (gS (Yk.lookMN E4 En (fun _ _=>Dq) JW Fu rfl rfl (hS.keep hE).now (by have:=B0 hm;exact this.2) hlk (gS (Yk.eqlNil JX rfl (kB (rfl) (cT rfl (Dh rfl (vr (.pointer none) rfl) (vr (NI 4) rfl) ?_))))))))))))))))
  exact⟨by rw[hV];rfl,hE⟩
 have hV:DH D ms s = .ok k:=by unfold DH;rw[if_neg c,hlk]
 refine gS (Yk.lit1S (a:=s) (enc:=B1) (vr (St (s)) rfl) rfl (fun w=>Fv _ w) fun ae aq af j=> ?_)
 have hE:=hE.trans j
 refine gS (Yk.appendFull JV GH rfl JV (fun y u hu=>by rw[List.mem_singleton.1 hu];rfl) (vr v rfl) (hF.keep hE) (vr ae rfl) af (by simp) (by simp;omega) (by simp[maxLen];omega) fun ag ar ah l=> ?_)
 have au:=hE.size
 have hE:=hE.trans l
 refine gS (Yk.callA2 Fw rfl rfl ((Dr base _ H D (hS.keep hE) ag (ms++ [s]) (RG.ofOwn ah) (by simp;omega)).mono ?_))
 rintro e av ⟨rfl,m⟩
 refine⟨_,rfl,?_⟩
 have hb:=eb ((j.trans l).trans m) hb
 have hE:=hE.trans m
 refine gS (Yk.eqI (a:=(readyL D (ms++ [s]):Nat)) (b:=(0:Nat)) rfl rfl (AZ _ _ _ _) (kF (by omega) (cF rfl (gS (Yk.nilCheck rfl (gS (Yk.fieldAt Mf rfl (gS (Yk.cell1 JW rfl rfl (cellAt hb rfl) (gS (Yk.lookMS E4 En (fun _ _=>Dq) JW Fu rfl rfl (hS.keep hE).now (by have:=B0 hm;exact this.2) hlk (gS (Yk.eqlNil JX rfl (kB (rfl) (cF rfl (Dh rfl (vr (.pointer (some ⟨(H.F k),0,none⟩)) rfl) (vr (NI 0) rfl) ?_))))))))))))))))
 exact⟨by rw[hV];rfl,hE⟩

theorem Lz(w:World)(s:List UInt8)(v:Value)(ms:List (List UInt8))(hF:FullG 1 B1 w v ms)(hl:ms.length≤1):
  Calls Tryz.prog 83 #[.pointer none,St s,v] w fun e w' =>e = .returned (.tuple #[.pointer none,NI 1])∧Ext w w' :=by
 refine gG (args:= [.pointer none,St (s),v]) Tryz.func83 rfl 28 rfl rfl ?_
 have hE:=Ext.refl w
 refine gS (Yk.lit1S (a:=s) (enc:=B1) (vr (St (s)) rfl) rfl (fun w=>Fv _ w) fun c l f g=> ?_)
 have hE:=hE.trans g
 refine gS (Yk.appendFull JV GH rfl JV (fun y u hu=>by rw[List.mem_singleton.1 hu];rfl) (vr v rfl) (hF.keep hE) (vr c rfl) f (by simp) (by simp;omega) (by simp[maxLen];omega) fun h m i j=> ?_)
 have n:=hE.size
 refine gS (Yk.callA2 Fw rfl rfl ((F9 _ h (ms++ [s]) (RG.ofOwn i)).mono ?_))
 rintro e o ⟨rfl,k⟩
 refine⟨_,rfl,?_⟩
 refine gS (Yk.eqI (a:=(1:Nat)) (b:=(0:Nat)) rfl rfl (AZ _ _ _ _) (kT (by decide) (cT rfl (Dh rfl (vr (.pointer none) rfl) (vr (NI 1) rfl) ?_))))
 have hE:=hE.trans (j.trans k)
 exact⟨rfl,hE⟩
open Go.RowKit
theorem DR{α:Type}{l:List α}{i:Nat}(d:α)(h:i<l.length):l.getD i d∈l:=by
  rw[List.getD_eq_getElem?_getD,List.getElem?_eq_getElem h];exact List.getElem_mem h
theorem OG.low{α:Type}{b b' k:Nat}{t:TypeId}{enc:α→List Value}{w:World}{v:Value}{l:List α}(h:OG b t k enc w v l)(hb:b' ≤b):OG b' t k enc w v l:=⟨h.1,BZ h.2 hb⟩
section
variable {P : Program}
theorem Yk.sliceArr{K:Value→World→Prop}{ρ:Tmp→Value}{t e:TypeId}{n:Nat}(ht:P.underlying t=some (.array n e))(he:∀w' :World,(sizeOf e).run P w' = .ok 1 w'){x:Operand}{d:Option Tmp}{ty:TypeId}{pos:String}{af:Array Edge}{gd:Option (Nat × Bool)}{w:World}{b o:Nat} 
    (hx:Ab ρ x = .pointer (some ⟨b,o,none⟩)) (hk:K (.slice (some ⟨b,o,none⟩) n n) w):Yk P K ((execOp (Ab ρ) ⟨d, .slice t x none none none,ty,pos,af,gd⟩).run P w):=by
  refine Yk.value (v:= .slice (some ⟨b,o,none⟩) n n) (w' :=w) ?_ hk
  have hE:P.elem t=e:=by simp[Program.elem,ht]
  have hN:P.arrayLen t=n:=by simp[Program.arrayLen,ht]
  have hr:=run_sliceAt_array_all (P:=P) (w:=w) (t:=t) (a:=⟨b,o,none⟩) (by rw[hE,hN];exact ht)
  rw[hE,he,hN]at hr
  unfold execOp
  simp only[hx,Option.map_none,Sem.run_bind,hr,Result.andThen_ok,Sem.run_pure]
  simp[slicedAt,Addr.add_lit]
end
section
variable {P : Program} {K : Value → World → Prop} {ρ : Ai} {w : World} {d : Option Tmp} {ty : TypeId} {pos : String} {af : Array Edge} {gd : Option (Nat × Bool)}
theorem Yk.storeMid{t' :TypeId}{x y:Operand}{g o:Nat}{a m z cells:List Value}{t:TypeId}(hx:Ab ρ x = .pointer (some ⟨g,o,none⟩))(hy:Ab ρ y = .agg cells.toArray)(hg:w.heap[g]? =some (.cells (a++m++z).toArray t (0,0)))(ha:a.length=o)(hm:m.length=cells.length)(hi:(P.info? t').map (·.size)=some cells.length)(h1:∀v∈cells,v.oneCell' =true) 
    (hk:∀w',w'.heap[g]? =some (.cells (a++cells++z).toArray t (0,0))→w.grownBy w' (some g)→w'.heap.size=w.heap.size→K undef w'):Yk P K ((execOp (Ab ρ) ⟨d, .store t' x y,ty,pos,af,gd⟩).run P w):=by
  have hst:=run_storeCells_at P g o t cells 0 (a++m++z).toArray w hg (by simp;omega) h1
  have e:((a++m++z).toArray.toList.take (o+0)++cells++(a++m++z).toArray.toList.drop (o+0+cells.length))=a++cells++z:=by
    have b:(a++m++z).take o=a:=by rw[List.append_assoc,←ha,List.take_left'];rfl
    have c:(a++m++z).drop (o+cells.length)=z:=List.drop_left' (by rw[List.length_append];omega)
    rw[List.toList_toArray,Nat.add_zero,b,c]
  rw[e]at hst
  have hr:(Instr.storeAt t' (.pointer (some ⟨g,o,none⟩)) (.agg cells.toArray)).run P w = .ok () (w.setRow g (a++cells++z).toArray):=by
    cases hq:P.info? t' with
    | none=>simp[hq]at hi
    | some i=>
      have hsz:cells.length=i.size:=by simp[hq]at hi;omega
      simp[Instr.storeAt,Instr.sureAddr,storeVar,sizeOf,typeInfo,hq,Value.cells,hsz]at hst ⊢
      simp[hst]
  unfold execOp
  simp only[hx,hy,hr,Sem.run_bind,Result.andThen_ok,Sem.run_pure]
  exact hk _ (setRow_heap w g (a++m++z).toArray _ t (0,0) hg) ⟨rfl,rfl,rfl,by simp,fun k _ hk=>setRow_other w g k _ (fun e=>hk (by rw[e]))⟩ (by simp)
theorem Yk.lit0G{α:Type}{k:Nat}{enc:α→List Value}{t e:TypeId}(hr:∀(w:World),(Instr.buildSlice t 0 #[]).run P w = .ok (.slice (some ⟨w.heap.size,0,none⟩) 0 0) (w.alloc (.cells #[] e))) 
    (hk:∀v w',OG w.heap.size e k enc w' v []→Ext w w' →K v w'):Yk P K ((execOp (Ab ρ) ⟨d, .buildSlice t 0 #[],ty,pos,af,gd⟩).run P w):=by
  have hr' :(execOp (Ab ρ) ⟨d, .buildSlice t 0 #[],ty,pos,af,gd⟩).run P w = .ok (.value (.slice (some ⟨w.heap.size,0,none⟩) 0 0)) (w.alloc (.cells #[] e)):=by
    unfold execOp
    simp only[List.map_toArray,List.map_nil,Sem.run_bind,hr,Result.andThen_ok,Sem.run_pure]
  rw[hr']
  refine hk _ _ ⟨fun x hx=>(List.not_mem_nil hx).elim,⟨by simp, .inr ⟨w.heap.size,0,#[],rfl,Nat.le_refl _,heap_alloc_new w _,Nat.le_refl _,by simp[maxLen],by simp,by simp⟩⟩⟩ (Below.alloc (Below.refl _ _) (Nat.le_refl _) _)
end
theorem Bk{w:World}{α:Type}{b k:Nat}{e:TypeId}{enc:α→List Value}{v:Value}{l l' :List α}(h:OG b e k enc w v l)(e' :l=l'):OG b e k enc w v l' :=by rw[←e'];exact h
theorem HI{w:World}{α:Type}{k:Nat}{enc:α→List Value}{v:Value}{l l' :List α}(h:RG k enc w v l)(e' :l=l'):RG k enc w v l' :=by rw[←e'];exact h
open Go.RowKit
theorem DV{a b:Nat}(h:a≠b):some a≠some b:=fun e=>h (Option.some.inj e)
def Ak(u v:Value):Prop:=∀k,u.ownBlock=some k→v.ownBlock≠some k
section
variable {N B : Nat} {r : Option Nat} {w w' w1 w0 : World} {e t : TypeId}
theorem Js{z n:Nat}{v:Value}{xs:List Value}(ho:w.ownsRow B e z v n xs)(k:w.grownBy w1 r)(ha:∀k,r=some k→v.ownBlock≠some k):w1.ownsRow B e z v n xs:=
  ho.kept k (by
    cases hv:v.ownBlock with
    | none=>exact .inl rfl
    | some g=>exact .inr (fun e=>ha g e.symm hv))
theorem Cr{u v:Value}{b:Nat}{e' :TypeId}{z n z' n' :Nat}{xs ys:List Value}(hu:w.ownsRow b e z u n xs)(hv:w'.ownsRow w.heap.size e' z' v n' ys):Ak u v:=fun k h1 h2=>by
  have:=(hu.lt k h1).2
  have:=(hv.lt k h2).1
  omega
theorem Be{u v:Value}{b:Nat}{e' :TypeId}{z n z' n' :Nat}{xs ys:List Value}(hu:w.ownsRow b e z u n xs)(hv:w'.ownsRow w.heap.size e' z' v n' ys):Ak v u:=fun k h1 h2=>Cr hu hv k h2 h1
theorem AH{u v v' :Value}{b:Nat}{z n:Nat}{xs:List Value}(gr:Grew w w' v v')(ha:Ak v u)(hu:w.ownsRow b e z u n xs):Ak v' u:=fun k h1 h2=>by
  rcases gr.fresh k h1 with h3 | h3
  · exact ha k h3 h2
  · have:=(hu.lt k h2).2
    omega
theorem Cl{v v' u:Value}{b:Nat}{z n:Nat}{xs:List Value}(hu:w.ownsRow b e z u n xs)(gr:Grew w w' v v')(ha:Ak v u):w'.ownsRow b e z u n xs:=Js hu gr.by_ ha
theorem Av{α:Type}{k b:Nat}{enc:α→List Value}{v v' u:Value}{l:List α}(hu:OG b e k enc w u l)(gr:Grew w w' v v')(ha:Ak v u):OG b e k enc w' u l:=⟨hu.1,Cl hu.2 gr ha⟩
end
open Go.RowKit
section
variable {P : Program} {n : Nat} {ρ : Ai} {w : World} {Q : BP}
def JY(B:Nat)(cs:List Nat)(m:Nat):World→World→Prop:=bif cs.contains m then Below B else Ext
def lsOk(l:List Oper)(cs:List Nat)(ks ls:Nat→List Nat):Bool:=cs.all fun m=>(ls m).all fun i=>(ks m).contains i||Nat.beq i m||((A4 l []).getD i 0).testBit m
def AllCh(S:World→World→Prop)(ls:Nat→List Nat)(Φs:List BB):List Nat→Prop
  | []=>True
  | m :: r=>AllStabX S (ls m) 0 Φs∧AllCh S ls Φs r
theorem AllCh.get{S:World→World→Prop}{ls:Nat→List Nat}{Φs:List BB}:∀(cs:List Nat),AllCh S ls Φs cs→∀m,cs.contains m=true→AllStabX S (ls m) 0 Φs
  | [],_,m,h=>by simp at h
  | c :: r,h,m,hm=>by
    by_cases e:m=c
    · subst e;exact h.1
    · exact AllCh.get r h.2 m (by simpa [e] using hm)
theorem Ip{l:List Oper}(B:Nat)(hB:B≤w.heap.size)(cs:List Nat)(ks ls:Nat→List Nat)(Φs:List BB){id:Nat}(hm:P.follows .mixedOrders=true)(ds:List Tmp)(hg:Cp l n=true)(hkl:Dg l ks=true)(hds:slotsW l=ds) 
    (hls:lsOk l cs ks ls=true) (hst:AllStab Ext Φs) (hsB:AllCh (Below B) ls Φs cs)
    (hs:StepsF P l (fun _=>Below B w) (JY B cs) (Br Φs) ρ 0 l)
    (hQ:∀(ρ' :Ai) w',Below B w w' →EndF ds ρ ρ' →Bv l ks (Br Φs) ρ' w' ds→Q .normal ρ' w'):Ch P n (.region id l.toArray true) Q ρ w:=by
  have step:∀m a b,Below B w a→JY B cs m a b→Below B w b:=fun m a b h k=>by
    unfold JY at k
    cases hc:cs.contains m <;> rw[hc]at k
    · exact Below.trans h (Below.mono k (Nat.le_trans hB h.size))
    · exact Below.trans h k
  intro a ha
  obtain⟨T,df⟩:=a
  have hz:T.size=n:=ha.size
  subst hz
  refine C0 ks (fun _=>Below B w) (fun _ w' =>Below B w w') _ (Br Φs) hm T df hg hkl ds hds (fun m i _ _ _ _ w1 w' hc hr=>step m _ _ hc hr) (fun m listed w1 w' _ _ _ _ hE hR=>step m _ _ hE hR) (fun m i hm' hi hni hne hbit v w1 w' h hr=> ?_) (fun m o w1 ho hgo=> ?_) (fun _ _=>(Below.refl _ _).drew) (Below.refl _ _).drew (StepsF.ok ha.get l 0 hs) (fun u listed w' hall hE hf=> ?_)
  · unfold JY at hr
    cases hc:cs.contains m <;> rw[hc]at hr
    · exact hst.get Φs i v w1 w' h hr
    · refine(AllCh.get cs hsB m hc).get Φs 0 i ?_ v w1 w' h hr
      rw[Nat.zero_add]
      intro hmem
      unfold lsOk at hls
      have h1:=List.all_eq_true.1 (List.all_eq_true.1 hls m (by simpa using hc)) i hmem
      simp only[Bool.or_eq_true]at h1
      rcases h1 with (h1 | h1) | h1
      · exact hni (by simpa using h1)
      · exact hne (Nat.eq_of_beq_eq_true h1)
      · rw[h1]at hbit
        cases hbit
  · unfold JY
    cases hc:cs.contains m
    · exact Ext.refl w1
    · exact Below.refl _ _
  · have hw:=DI ha.get ds (Er hg ds hds) u
    refine⟨fun t=>if t∈ds then u t else ρ t,⟨by rw[Cy],ha.defers,hw⟩,hQ _ w' hE ⟨fun t ht=>if_neg (by simpa using ht)⟩ ?_⟩
    have key:∀es:List Tmp,(∀d∈es,d∈ds)→Bv l ks (Br Φs) u w' es→Bv l ks (Br Φs) (fun t=>if t∈ds then u t else ρ t) w' es:=by
      intro es
      induction es with
      | nil=>exact fun _ _=>trivial
      | cons d es ih=>
        intro hm h
        refine⟨?_,ih (fun x hx=>hm x (by simp[hx])) h.2⟩
        have:=h.1
        simp only[if_pos (hm d (by simp))]
        exact this
    exact key ds (fun _ h=>h) hf
end
open Go.RowKit
structure BX (N : Nat) (r : Option Nat) (w w' : World) : Prop where
  os:w'.os=w.os
  tape:w'.tape=w.tape
  output:w'.output=w.output
  size:w.heap.size≤w'.heap.size
  block:∀k,k<N→some k≠r→w'.heap[k]? =w.heap[k]?
section
variable {N B : Nat} {r : Option Nat} {w w' w1 w0 : World} {e t : TypeId}
theorem BX.trans{a b c:World}(h:BX N r a b)(k:BX N r b c):BX N r a c:=⟨k.os.trans h.os,k.tape.trans h.tape,k.output.trans h.output,Nat.le_trans h.size k.size,fun i hi hr=>(k.block i hi hr).trans (h.block i hi hr)⟩
theorem BX.ofExt(h:Ext w w')(hN:N≤w.heap.size):BX N r w w' :=⟨h.os,h.tape,h.output,h.size,fun k hk _=>h.block k (Nat.lt_of_lt_of_le hk hN)⟩
theorem BX.ofGrown{q:Option Nat}(h:w.grownBy w' q)(hN:N≤w.heap.size)(hq:∀k,q=some k→r=some k∨N≤k):BX N r w w' :=
  ⟨h.os,h.tape,h.output,h.size,fun k hk hr=>h.block k (Nat.lt_of_lt_of_le hk hN) (fun e=>(hq k e.symm).elim (fun x=>hr x.symm) (fun x=>by omega))⟩
theorem BX.grown(h:BX w.heap.size r w w'):w.grownBy w' r:=⟨h.os,h.tape,h.output,h.size,h.block⟩
theorem Nb(h:Ext w0 w)(k:BX N r w w1)(hle:w0.heap.size≤N)(hr:∀k,r=some k→w0.heap.size≤k):Ext w0 w1:=
  Below.trans h ⟨k.os,k.tape,k.output,k.size,fun i hi=>k.block i (Nat.lt_of_lt_of_le hi hle) (fun e=>by have:=hr i e.symm;omega)⟩
end
section
variable {P : Program} {n : Nat} {ρ : Ai} {w : World} {Q : BP}
def JB(w:World)(r:Option Nat)(es:List Nat)(m:Nat):World→Prop:=bif es.contains m then Ext w else BX w.heap.size r w
def GI(N:Nat)(r:Option Nat)(cs:List Nat)(m:Nat):World→World→Prop:=bif cs.contains m then BX N r else Ext
def R4(l:List Oper)(cs es:List Nat):Bool:=cs.all fun m=>es.all fun i=>((A4 l []).getD m 0).testBit i
theorem Fe{l:List Oper}(r:Option Nat)(cs es:List Nat)(ks ls:Nat→List Nat)(Φs:List BB){id:Nat}(hm:P.follows .mixedOrders=true)(ds:List Tmp)(hg:Cp l n=true)(hkl:Dg l ks=true)(hds:slotsW l=ds) 
    (hls:lsOk l cs ks ls=true) (hes:R4 l cs es=true) (hgc:(cs.all fun m=>((l[m]?).bind (·.guard)).isNone)=true) (hst:AllStab Ext Φs) (hsB:AllCh (BX w.heap.size r) ls Φs cs)
    (hs:StepsF P l (JB w r es) (GI w.heap.size r cs) (Br Φs) ρ 0 l)
    (hQ:∀(ρ' :Ai) w',BX w.heap.size r w w' →EndF ds ρ ρ' →Bv l ks (Br Φs) ρ' w' ds→Q .normal ρ' w'):Ch P n (.region id l.toArray true) Q ρ w:=by
  have stepR:∀m a b,BX w.heap.size r w a→GI w.heap.size r cs m a b→BX w.heap.size r w b:=fun m a b h k=>by
    unfold GI at k
    cases hc:cs.contains m <;> rw[hc]at k
    · exact h.trans (BX.ofExt k h.size)
    · exact h.trans k
  have drew:Ext w w.drew:=(Below.refl _ _).drew
  intro a ha
  obtain⟨T,df⟩:=a
  have hz:T.size=n:=ha.size
  subst hz
  refine C0 ks (JB w r es) (fun _ w' =>BX w.heap.size r w w') _ (Br Φs) hm T df hg hkl ds hds (fun m i _ _ hne hbit w1 w' hc hr=> ?_) (fun m listed w1 w' _ _ _ _ hE hR=>stepR m _ _ hE hR) (fun m i hm' hi hni hne hbit v w1 w' h hr=> ?_) (fun m o w1 ho hgo=> ?_) (fun m _=> ?_) (BX.ofExt drew (Nat.le_refl _)) (StepsF.ok ha.get l 0 hs) (fun u listed w' hall hE hf=> ?_)
  · unfold JB at hc ⊢
    cases he:es.contains i <;> rw[he]at hc
    · exact stepR m _ _ hc hr
    · unfold GI at hr
      cases hcm:cs.contains m <;> rw[hcm]at hr
      · exact Ext.trans hc hr
      · unfold R4 at hes
        have:=List.all_eq_true.1 (List.all_eq_true.1 hes m (by simpa using hcm)) i (by simpa using he)
        rw[this]at hbit
        cases hbit
  · unfold GI at hr
    cases hc:cs.contains m <;> rw[hc]at hr
    · exact hst.get Φs i v w1 w' h hr
    · refine(AllCh.get cs hsB m hc).get Φs 0 i ?_ v w1 w' h hr
      rw[Nat.zero_add]
      intro hmem
      unfold lsOk at hls
      have h1:=List.all_eq_true.1 (List.all_eq_true.1 hls m (by simpa using hc)) i hmem
      simp only[Bool.or_eq_true]at h1
      rcases h1 with (h1 | h1) | h1
      · exact hni (by simpa using h1)
      · exact hne (Nat.eq_of_beq_eq_true h1)
      · rw[h1]at hbit
        cases hbit
  · unfold GI
    cases hc:cs.contains m
    · exact Ext.refl w1
    · have:=List.all_eq_true.1 hgc m (by simpa using hc)
      rw[ho]at this
      simp only[Option.bind_some,Option.isNone_iff_eq_none]at this
      rw[this]at hgo
      cases hgo
  · unfold JB
    cases es.contains m
    · exact BX.ofExt drew (Nat.le_refl _)
    · exact drew
  · have hw:=DI ha.get ds (Er hg ds hds) u
    refine⟨fun t=>if t∈ds then u t else ρ t,⟨by rw[Cy],ha.defers,hw⟩,hQ _ w' hE ⟨fun t ht=>if_neg (by simpa using ht)⟩ ?_⟩
    have key:∀es:List Tmp,(∀d∈es,d∈ds)→Bv l ks (Br Φs) u w' es→Bv l ks (Br Φs) (fun t=>if t∈ds then u t else ρ t) w' es:=by
      intro es
      induction es with
      | nil=>exact fun _ _=>trivial
      | cons d es ih=>
        intro hm h
        refine⟨?_,ih (fun x hx=>hm x (by simp[hx])) h.2⟩
        have:=h.1
        simp only[if_pos (hm d (by simp))]
        exact this
    exact key ds (fun _ h=>h) hf
end
open Go.RowKit
theorem R5:(Tryz.prog.info? 54).map (·.size)=some 32:=by kernel_rfl
theorem JZ{l:List UInt8}(h:l.length=32):(Lib.byteCells l).toArray.size=32:=by simp[Lib.byteCells,h]
theorem Ae{l:List UInt8}(h:l.length=32):(Tryz.prog.info? 54).map (·.size)=some (Lib.byteCells l).toArray.size:=by rw[JZ h];exact R5
open Go.RowKit
variable {P : Program}
def cellsU(l:List UInt32):Array Value:=(l.map fun x=>U x).toArray
theorem E5(l:List UInt32):(cellsU l).size=l.length:=by simp[cellsU]
theorem C9(l:List UInt32):∀v∈(cellsU l).toList,v.oneCell' =true:=by
  intro v hv
  simp[cellsU]at hv
  obtain⟨x,-,rfl⟩:=hv
  rfl
namespace Sha
def rotr(x:UInt32)(n:Nat):UInt32:=x<<<UInt32.ofNat (32-n)|||x>>>UInt32.ofNat n
def be4(b:List UInt8)(t:Nat):UInt32:=
  (b.getD (4*t) 0).toUInt32<<<24|||(b.getD (4*t+1) 0).toUInt32<<<16|||(b.getD (4*t+2) 0).toUInt32<<<8|||(b.getD (4*t+3) 0).toUInt32
def low(x:UInt32):UInt32:=rotr x 7^^^rotr x 18^^^x>>>3
def high(y:UInt32):UInt32:=rotr y 17^^^rotr y 19^^^y>>>10
def nextW(b:List UInt8)(l:List UInt32)(t:Nat):UInt32:=
  if t<16 then be4 b t else high (l.getD (t-2) 0)+l.getD (t-7) 0+low (l.getD (t-15) 0)+l.getD (t-16) 0
def sched(b:List UInt8):Nat→List UInt32
  | 0=> []
  | t+1=>sched b t++ [nextW b (sched b t) t]
theorem sched_length(b:List UInt8):∀t,(sched b t).length=t
  | 0=>rfl
  | t+1=>by simp[sched,sched_length b t]
def first:List UInt32:= [0x6a09e667,0xbb67ae85,0x3c6ef372,0xa54ff53a,0x510e527f,0x9b05688c,0x1f83d9ab,0x5be0cd19]
def words:List UInt32:= [0x428a2f98,0x71374491,0xb5c0fbcf,0xe9b5dba5,0x3956c25b,0x59f111f1,0x923f82a4,0xab1c5ed5,0xd807aa98,0x12835b01,0x243185be,0x550c7dc3,0x72be5d74,0x80deb1fe,0x9bdc06a7,0xc19bf174,0xe49b69c1,0xefbe4786,0x0fc19dc6,0x240ca1cc,0x2de92c6f,0x4a7484aa,0x5cb0a9dc,0x76f988da,0x983e5152,0xa831c66d,0xb00327c8,0xbf597fc7,0xc6e00bf3,0xd5a79147,0x06ca6351,0x14292967,0x27b70a85,0x2e1b2138,0x4d2c6dfc,0x53380d13,0x650a7354,0x766a0abb,0x81c2c92e,0x92722c85,0xa2bfe8a1,0xa81a664b,0xc24b8b70,0xc76c51a3,0xd192e819,0xd6990624,0xf40e3585,0x106aa070,0x19a4c116,0x1e376c08,0x2748774c,0x34b0bcb5,0x391c0cb3,0x4ed8aa4a,0x5b9cca4f,0x682e6ff3,0x748f82ee,0x78a5636f,0x84c87814,0x8cc70208,0x90befffa,0xa4506ceb,0xbef9a3f7,0xc67178f2]
def up(v:List UInt32)(k w:UInt32):UInt32:=
  v.getD 7 0+(rotr (v.getD 4 0) 6^^^rotr (v.getD 4 0) 11^^^rotr (v.getD 4 0) 25)+(v.getD 4 0&&&v.getD 5 0 ^^^ ~~~(v.getD 4 0)&&&v.getD 6 0)+k+w
def two(v:List UInt32):UInt32:=rotr (v.getD 0 0) 2^^^rotr (v.getD 0 0) 13^^^rotr (v.getD 0 0) 22
def most(v:List UInt32):UInt32:=v.getD 0 0&&&v.getD 1 0^^^v.getD 0 0&&&v.getD 2 0^^^v.getD 1 0&&&v.getD 2 0
def round(v:List UInt32)(k w:UInt32):List UInt32:=
  [up v k w+two v+most v,v.getD 0 0,v.getD 1 0,v.getD 2 0,v.getD 3 0+up v k w,v.getD 4 0,v.getD 5 0,v.getD 6 0]
def turned(s ws:List UInt32):Nat→List UInt32
  | 0=>s
  | t+1=>round (turned s ws t) (words.getD t 0) (ws.getD t 0)
theorem turned_length(s ws:List UInt32)(hs:s.length=8):∀t,(turned s ws t).length=8
  | 0=>hs
  | _+1=>rfl
def added(v s:List UInt32):List UInt32:=List.zipWith (· + ·) v s
def rounds(s:List UInt32)(b:List UInt8):List UInt32:=added (turned s (sched b 64) 64) s
theorem rounds_length(s:List UInt32)(b:List UInt8)(hs:s.length=8):(rounds s b).length=8:=by
  simp[rounds,added,turned_length _ _ hs,hs]
def blocks(s:List UInt32)(b:List UInt8):Nat→List UInt32
  | 0=>s
  | n+1=>blocks (rounds s (b.take 64)) (b.drop 64) n
theorem blocks_length(n:Nat):∀(s:List UInt32) (b:List UInt8),s.length=8→(blocks s b n).length=8:=by
  induction n with
  | zero=>exact fun s b h=>h
  | succ n ih=>exact fun s b h=>ih _ _ (rounds_length _ _ h)
def be64(n:Nat):List UInt8:=(List.range 8).map fun i=>UInt8.ofNat (n/2^(56-8*i))
def tail(n:Nat):List UInt8:=128 :: (List.replicate ((119-n%64)%64) 0++be64 (8*n))
def out(s:List UInt32):List UInt8:=s.flatMap fun(w:UInt32)=> [(w>>>24).toUInt8,(w>>>16).toUInt8,(w>>>8).toUInt8,w.toUInt8]
def sum(b:List UInt8):List UInt8:=out (blocks first (b++tail b.length) ((b++tail b.length).length/64))
end Sha
open Go.RowKit
namespace Sha
def pad64(l:List UInt32):List UInt32:=l++List.replicate (64-l.length) 0
theorem pad64_length(l:List UInt32)(h:l.length≤64):(pad64 l).length=64:=by simp[pad64];omega
theorem pad64_get(l:List UInt32)(i:Nat):(pad64 l).getD i 0=l.getD i 0:=by
  unfold pad64
  simp only[List.getD_eq_getElem?_getD]
  rw[List.getElem?_append]
  split
  · rfl
  · rename_i h
    rw[List.getElem?_replicate,List.getElem?_eq_none (by omega)]
    split <;> rfl
theorem pad64_set(l:List UInt32)(x:UInt32)(h:l.length<64):(pad64 l).set l.length x=pad64 (l++ [x]):=by
  unfold pad64
  rw[List.set_append_right _ _ (Nat.le_refl _),Nat.sub_self]
  obtain⟨k,hk⟩:∃k,64-l.length=k+1:=⟨64-l.length-1,by omega⟩
  rw[hk,List.replicate_succ,List.set_cons_zero]
  have:64-(l++ [x]).length=k:=by simp;omega
  rw[this]
  simp
theorem pad64_full(l:List UInt32)(h:l.length=64):pad64 l=l:=by simp[pad64,h]
theorem sched_step1(b:List UInt8)(t:Nat)(h:t<16):(pad64 (sched b t)).set t (be4 b t)=pad64 (sched b (t+1)):=by
  have:=pad64_set (sched b t) (be4 b t) (by rw[sched_length];omega)
  rw[sched_length]at this
  rw[this]
  simp[sched,nextW,h]
theorem sched_step2(b:List UInt8)(t:Nat)(h:16≤t)(h2:t<64):(pad64 (sched b t)).set t (high ((pad64 (sched b t)).getD (t-2) 0)+(pad64 (sched b t)).getD (t-7) 0+low ((pad64 (sched b t)).getD (t-15) 0)+(pad64 (sched b t)).getD (t-16) 0)=pad64 (sched b (t+1)):=by
  simp only[pad64_get]
  have:=pad64_set (sched b t) (nextW b (sched b t) t) (by rw[sched_length];omega)
  rw[sched_length]at this
  rw[sched,←this]
  unfold nextW
  rw[if_neg (by omega)]
end Sha
structure Laid (w : World) : Prop where
  first:∃t fr,w.heap[0]? =some (.cells (cellsU Sha.first) t fr)
  words:∃t fr,w.heap[1]? =some (.cells (cellsU Sha.words) t fr)
theorem Laid.keep{w w' :World}(h:Laid w)(k:Ext w w'):Laid w' :=⟨by obtain⟨t,fr,h1⟩:=h.first;exact⟨t,fr,k.blk' h1⟩,by obtain⟨t,fr,h1⟩:=h.words;exact⟨t,fr,k.blk' h1⟩⟩
theorem Laid.two{w:World}(h:Laid w):1<w.heap.size:=by
  obtain⟨t,fr,h1⟩:=h.words
  exact(Array.getElem?_eq_some_iff.1 h1).1
def Sha.adding(v s:List UInt32):Nat→List UInt32
  | 0=>v
  | i+1=>(Sha.adding v s i).set i ((Sha.adding v s i).getD i 0+s.getD i 0)
theorem Sha.adding_length(v s:List UInt32):∀i,(Sha.adding v s i).length=v.length
  | 0=>rfl
  | i+1=>by simp[Sha.adding,Sha.adding_length v s i]
theorem Sha.adding_get(v s:List UInt32)(h:s.length=v.length):∀i j,j<v.length→(Sha.adding v s i).getD j 0=if j<i then v.getD j 0+s.getD j 0 else v.getD j 0
  | 0,j,_=>by simp[Sha.adding]
  | i+1,j,hj=>by
    have ih:=Sha.adding_get v s h i
    unfold Sha.adding
    by_cases hij:i=j
    · subst hij
      have hl:i<(Sha.adding v s i).length:=by rw[Sha.adding_length];exact hj
      rw[List.getD_eq_getElem?_getD,List.getElem?_set_self hl,Option.getD_some,ih i hj,if_neg (Nat.lt_irrefl _),if_pos (Nat.lt_succ_self _)]
    · rw[List.getD_eq_getElem?_getD,List.getElem?_set_ne hij,←List.getD_eq_getElem?_getD,ih j hj]
      by_cases h1:j<i
      · rw[if_pos h1,if_pos (by omega)]
      · rw[if_neg h1,if_neg (by omega)]
theorem Sha.adding_all(v s:List UInt32)(h:s.length=v.length):Sha.adding v s v.length=Sha.added v s:=by
  apply List.ext_getElem (by simp[Sha.adding_length,Sha.added,h])
  intro j h1 h2
  have hj:j<v.length:=by rw[Sha.adding_length]at h1;exact h1
  have:=Sha.adding_get v s h v.length j hj
  rw[if_pos hj]at this
  have hs:j<s.length:=by omega
  simp[List.getD_eq_getElem?_getD,h1,hj,hs]at this
  rw[this]
  simp[Sha.added]

theorem Sha.adding_end{v s:List UInt32}{i:Nat}(h:s.length=8)(hv:v.length=8)(h1:i≤8)(h2:¬i<8):Sha.adding v s i=Sha.added v s:=by
  have:=Sha.adding_all v s (by omega)
  rw[hv]at this
  rw[show i=8 by omega,this]
def EG:List Nat:= [2,6,7,11,13,17,18,19,22,25]
theorem Q6(n:Nat)(hn:n∈EG)(t:TypeId):Go.binOp .and t (.int .u64 (IntKind.u64.wrap (-(n:Int)))) (.int .u64 ((31:Nat):Int))=pure (.int .u64 ((32-n:Nat):Int)):=by
  unfold EG at hn
  simp only[List.mem_cons,List.not_mem_nil,or_false]at hn
  rcases hn with rfl | rfl | rfl | rfl | rfl | rfl | rfl | rfl | rfl | rfl <;> rfl
theorem Nc{n:Nat}(hn:n∈EG):0<n∧n<32:=by
  unfold EG at hn
  simp only[List.mem_cons,List.not_mem_nil,or_false]at hn
  omega
theorem Yk.negSet{P:Program}{K:Value→World→Prop}{ρ:Ai}{w:World}{d:Option Tmp}{ty:TypeId}{pos:String}{af:Array Edge}{gd:Option (Nat × Bool)}{t:TypeId}{x:Operand}{n:Nat}(hn:n∈EG)(hx:Ab ρ x=NI n)(hk:K (.int .i64 (-(n:Int))) w):Yk P K ((execOp (Ab ρ) ⟨d, .unOp .neg t x,ty,pos,af,gd⟩).run P w):=by
  have h:=Nc hn
  refine Yk.value (v:= .int .i64 (-(n:Int))) (w' :=w) ?_ hk
  have hw:IntKind.i64.wrap (-(n:Int)) = -(n:Int):=by
    simp only[IntKind.wrap,IntKind.bits,IntKind.signed]
    simp
    omega
  unfold execOp
  simp[hx,Op.unary,Op.intArith,hw]
theorem Yk.build8{P:Program}{K:Value→World→Prop}{ρ:Ai}{w:World}{d:Option Tmp}{ty:TypeId}{pos:String}{af:Array Edge}{gd:Option (Nat × Bool)}{t:TypeId}{x0 x1 x2 x3 x4 x5 x6 x7:Operand}{a b c e f g h i v:Value}(h0:Ab ρ x0=a)(h1:Ab ρ x1=b)(h2:Ab ρ x2=c)(h3:Ab ρ x3=e)(h4:Ab ρ x4=f)(h5:Ab ρ x5=g)(h6:Ab ρ x6=h)(h7:Ab ρ x7=i)(hr:∀w:World,(Instr.build t #[(0,a),(1,b),(2,c),(3,e),(4,f),(5,g),(6,h),(7,i)]).run P w = .ok v w)(hk:K v w):Yk P K ((execOp (Ab ρ) ⟨d, .build t #[(0,x0),(1,x1),(2,x2),(3,x3),(4,x4),(5,x5),(6,x6),(7,x7)],ty,pos,af,gd⟩).run P w):=by
  refine Yk.value (v:=v) (w' :=w) ?_ hk
  unfold execOp
  simp only[List.map_toArray,List.map_cons,List.map_nil,h0,h1,h2,h3,h4,h5,h6,h7,Sem.run_bind,hr,Result.andThen_ok,Sem.run_pure]
open Go.RowKit
set_option maxRecDepth 100000
theorem Pb:Tryz.prog.underlying 3=some (.int .i64):=by kernel_rfl
theorem Nd:Tryz.prog.underlying 92=some (.int .u64):=by kernel_rfl
theorem Mh:Plain Tryz.prog 124:=fun _ _=>by kernel_rfl
theorem Fx:(Tryz.prog.info? 91).map (·.size)=some 64:=by kernel_rfl
theorem IM{d:Option Tmp}{ty:TypeId}{pos:String}{af:Array Edge}{gd:Option (Nat × Bool)}(σ:Operand→Value)(w:World):(execOp σ ⟨d, .alloc 91,ty,pos,af,gd⟩).run Tryz.prog w = .ok (.value (PQ w.heap.size 0)) (w.alloc (.cells ((List.replicate 64 0).map fun x=>U x).toArray 91)):=by kernel_rfl
theorem Fy:∀w' :World,(sizeOf 5).run Tryz.prog w' = .ok 1 w' :=fun _=>by kernel_rfl
theorem Ds:Tryz.prog.underlying 5=some (.int .u8):=by kernel_rfl
theorem AV:Tryz.prog.underlying 89=some (.int .u32):=by kernel_rfl
theorem CD:Tryz.prog.underlying 91=some (.array 64 89):=by kernel_rfl
theorem A0:∀w' :World,(sizeOf 89).run Tryz.prog w' = .ok 1 w' :=fun _=>by kernel_rfl
theorem Fz:(Tryz.prog.info? 89).map (·.size)=some 1:=by kernel_rfl
theorem Cs:Plain Tryz.prog 115:=fun _ _=>by kernel_rfl
theorem DA:(Tryz.prog.info? 90).map (·.size)=some 8:=by kernel_rfl
theorem IN{d:Option Tmp}{ty:TypeId}{pos:String}{af:Array Edge}{gd:Option (Nat × Bool)}(σ:Operand→Value)(w:World):(execOp σ ⟨d, .alloc 90,ty,pos,af,gd⟩).run Tryz.prog w = .ok (.value (PQ w.heap.size 0)) (w.alloc (.cells ((List.replicate 8 0).map fun x=>U x).toArray 90)):=by kernel_rfl
theorem A9:Tryz.prog.underlying 90=some (.array 8 89):=by kernel_rfl
theorem Mi:Plain Tryz.prog 114:=fun _ _=>by kernel_rfl
theorem Pc(a b c d e f g h:UInt32)(w:World):(Instr.build 90 #[(0,U a),(1,U b),(2,U c),(3,U d),(4,U e),(5,U f),(6,U g),(7,U h)]).run Tryz.prog w = .ok (.agg (([a,b,c,d,e,f,g,h]:List UInt32).map fun x=>U x).toArray) w:=by kernel_rfl
set_option maxHeartbeats 1600000
theorem Pd(w:World)(x:UInt32)(n:Nat)(hn:n∈EG):
  Calls Tryz.prog 124 #[U x, .int .i64 (-(n:Int))] w fun e w' =>e = .returned (U (Sha.rotr x n))∧Ext w w' :=by
 obtain⟨a,b⟩:=Nc hn
 refine gG (args:= [U (x),(.int .i64 (-(n:Int)))]) Tryz.func124 rfl 17 rfl rfl ?_
 have hE:=Ext.refl w
 refine gS (Yk.convI Pb Nd rfl rfl (gS (Yk.bin (yv:= .int .u64 ((31:Nat):Int)) rfl rfl rfl (Q6 n hn _) (gS (Yk.bin (yv:= .int .u64 ((32-n:Nat):Int)) rfl rfl rfl (EU _ _ _ (32-n) (by omega)) (gS (Yk.bin (xv:= .int .u64 ((32:Nat):Int)) (yv:= .int .u64 ((32-n:Nat):Int)) rfl rfl rfl (Lv _ _ _ (by omega) (by omega)) (gS (Yk.bin (yv:= .int .u64 (((32)-(32-n):Nat):Int)) rfl rfl rfl (DM _ _ _ ((32)-(32-n)) (by omega)) (gS (Yk.bin rfl rfl rfl (FZ _ _ _) (AX rfl (vr (U (((x)<<<UInt32.ofNat (32-n))|||((x)>>>UInt32.ofNat ((32)-(32-n))))) rfl) ?_))))))))))))
 refine⟨?_,hE⟩
 unfold Sha.rotr
 rw[show 32-(32-n)=n by omega]

theorem CU(w:World)(x:UInt32)(n:Nat)(hn:n∈EG):
  Calls Tryz.prog 115 #[U x,NI n] w fun e w' =>e = .returned (U (Sha.rotr x n))∧Ext w w' :=by
 refine gG (args:= [U (x),NI n]) Tryz.func115 rfl 9 rfl rfl ?_
 have hE:=Ext.refl w
 refine gS (Yk.negSet hn rfl (gS (Yk.callA2 Mh rfl rfl ((Pd _ x n hn).mono ?_))))
 rintro e b ⟨rfl,a⟩
 refine⟨_,rfl,?_⟩
 refine AX rfl (vr (U (Sha.rotr (x) n)) rfl) ?_
 have hE:=hE.trans a
 exact⟨rfl,hE⟩

theorem J0(w:World)(v:Value)(b:List UInt8)(hb:RB w v b)(hl:b.length=64):
  Calls Tryz.prog 114 #[v] w fun e w' =>e = .returned (.agg (cellsU (Sha.sched b 64)))∧Ext w w' :=by
 refine gG (args:= [v]) Tryz.func114 rfl 93 rfl rfl ?_
 have hE:=Ext.refl w
 refine gS (Yk.alloc (cs:=((List.replicate 64 0).map fun x=>U x).toArray) IM fun o p a4 z aw a5=> ?_)
 have c:=z;clear z
 have a6:o<p.heap.size:=by omega
 refine gS (Yk.alloc (cs:=((List.replicate 64 0).map fun x=>U x).toArray) IM fun j ax ay aa s a7=> ?_)
 have f:=Ext.refl p
 have hE:=hE.trans aw
 have ab:=hE.size
 have a8:=AE (bl c) ay
 have ac:=aa;clear aa
 have a9:j<ax.heap.size:=by omega
 have hE:=hE.trans s
 have c:=eb s c
 have f:=f.trans s
 refine gL (fun(ρ:Ai) (wz:World)=>∃t:Nat,ρ 0=(v:Value)∧ρ 2=(PQ o 0:Value)∧ρ 3=(PQ j 0:Value)∧ρ 10=(NI t:Value)∧Ext w wz∧wz.heap[o]? =some (.cells ((List.replicate 64 0).map fun x=>U x).toArray 91 (0,0))∧Ext p wz∧wz.heap[j]? =some (.cells ((Sha.pad64 (Sha.sched b t)).map fun x=>U x).toArray 91 (0,0))∧(t≤16)∧True) (fun ρ _=>16-(intOf (ρ 10)).toNat) ⟨0,rfl,rfl,rfl,rfl,hE,c,f,AF ac (rfl),by omega,trivial⟩ ?_
 clear ac
 clear hE c f
 rintro az a0 ⟨t,k,n,g,h,hE,c,f,hb21l,ht_t,-⟩
 have q10:=h
 have hpl_t:(Sha.pad64 (Sha.sched b t)).length=64:=Sha.pad64_length _ (by rw[Sha.sched_length];omega)
 obtain⟨Bt,hBt⟩:∃B,B=Sha.pad64 (Sha.sched b t):=⟨_,rfl⟩
 have hb21l:a0.heap[j]? =some (.cells ((Bt).map fun x=>U x).toArray 91 (0,0)):=AF hb21l (by rw[hBt])
 rw[←hBt]at hpl_t
 refine gS (Yk.eqI (a:=(t:Nat)) (b:=(16:Nat)) h rfl (AO _ _ _ _) ?_)
 refine cD rfl (fun ad=> ?_) fun ad=> ?_
 ·refine B5 [0,1,2,3,4,5,6,7,8,9,10,11,12,13,14,15,16,17,18,19,20,21,22,23,24,25,26,27,28,29,30,31,32,33,34,35] [35] [] fun ba r=> ?_
  have hE:=hE.trans r
  have hb21l:=eb r hb21l
  refine ys (Yk.bin (xv:=NI 4) (yv:=NI t) rfl h rfl (BH _ _ _ (by omega)) zz) (yA (Yk.atRB (l:=b) (i:=(4)*(t)) S2 Fy (RB.of (hb.keep hE) k) rfl (by omega) fun bb ae=>(ys (Yk.loadC Ds rfl (PCell.of ae rfl) zz) (ys (Yk.wide Ds AV rfl zz) (ys (Yk.bin rfl rfl rfl (EU _ _ _ 24 (by decide)) zz) (ys (Yk.bin (xv:=NI 4) (yv:=NI t) rfl h rfl (BH _ _ _ (by omega)) zz) (ys (Yk.bin (xv:=NI ((4)*(t))) (yv:=NI 1) rfl rfl rfl (Ap _ _ _ (by omega)) zz) (yA (Yk.atRB (l:=b) (i:=((4)*(t))+(1)) S2 Fy (RB.of (hb.keep hE) k) rfl (by omega) fun bc af=>(ys (Yk.loadC Ds rfl (PCell.of af rfl) zz) (ys (Yk.wide Ds AV rfl zz) (ys (Yk.bin rfl rfl rfl (EU _ _ _ 16 (by decide)) zz) (ys (Yk.bin rfl rfl rfl (FZ _ _ _) zz) (ys (Yk.bin (xv:=NI 4) (yv:=NI t) rfl h rfl (BH _ _ _ (by omega)) zz) (ys (Yk.bin (xv:=NI ((4)*(t))) (yv:=NI 2) rfl rfl rfl (Ap _ _ _ (by omega)) zz) (yA (Yk.atRB (l:=b) (i:=((4)*(t))+(2)) S2 Fy (RB.of (hb.keep hE) k) rfl (by omega) fun bd ag=>(ys (Yk.loadC Ds rfl (PCell.of ag rfl) zz) ?_))))))))))))))))))
  refine ys (Yk.wide Ds AV rfl zz) (ys (Yk.bin rfl rfl rfl (EU _ _ _ 8 (by decide)) zz) (ys (Yk.bin rfl rfl rfl (FZ _ _ _) zz) (ys (Yk.bin (xv:=NI 4) (yv:=NI t) rfl h rfl (BH _ _ _ (by omega)) zz) (ys (Yk.bin (xv:=NI ((4)*(t))) (yv:=NI 3) rfl rfl rfl (Ap _ _ _ (by omega)) zz) (yA (Yk.atRB (l:=b) (i:=((4)*(t))+(3)) S2 Fy (RB.of (hb.keep hE) k) rfl (by omega) fun be ah=>(ys (Yk.loadC Ds rfl (PCell.of ah rfl) zz) (ys (Yk.wide Ds AV rfl zz) (ys (Yk.bin rfl rfl rfl (FZ _ _ _) zz) (ys (Yk.atArr0 (i:=t) CD A0 g h (by omega) zz) (yC (Yk.storeU32 (i:=t) (v:=(((((b.getD ((4)*(t)) 0).toUInt32)<<<24)|||(((b.getD (((4)*(t))+(1)) 0).toUInt32)<<<16))|||(((b.getD (((4)*(t))+(2)) 0).toUInt32)<<<8))|||((b.getD (((4)*(t))+(3)) 0).toUInt32)) rfl rfl hb21l (by rw[hpl_t];omega) Fz fun a1 ai u bf=> ?_))))))))))))
  have hE:=Aa hE u (Nat.le_trans ab (by omega))
  have c:=eb r c
  have c:=kb u c (by omega)
  have f:=f.trans r
  have f:=Aa f u (Nat.le_trans (Nat.le_refl _) (by omega))
  clear ae
  clear af
  clear ag
  clear ah
  clear hb21l
  have hb21l:=ai;clear ai
  have bg:=bl hb21l
  have hb21l:a1.heap[j]? =some (.cells ((Sha.pad64 (Sha.sched b (t+1))).map fun x=>U x).toArray 91 (0,0)):=AF hb21l (congrArg (List.map fun x=>U x) (by rw[hBt];exact Sha.sched_step1 b t ad))
  refine gS (Yk.bin (xv:=NI t) (yv:=NI 1) h rfl rfl (Ap _ _ _ (by omega)) (gK (And.intro ⟨t+1,k,n,g,rfl,hE,c,f,AF hb21l (rfl),by omega,trivial⟩ ?_)))
  show 16-(intOf (NI ((t)+(1)))).toNat<16-(intOf (az 10)).toNat
  rw[q10]
  simp only[intOf,Int.toNat_natCast];omega
 refine gL (fun(ρ:Ai) (wz:World)=>∃q:Nat,ρ 0=(v:Value)∧ρ 2=(PQ o 0:Value)∧ρ 3=(PQ j 0:Value)∧ρ 10=(NI t:Value)∧ρ 5=(NI q:Value)∧Ext w wz∧wz.heap[o]? =some (.cells ((List.replicate 64 0).map fun x=>U x).toArray 91 (0,0))∧Ext p wz∧wz.heap[j]? =some (.cells ((Sha.pad64 (Sha.sched b q)).map fun x=>U x).toArray 91 (0,0))∧(q≤64)∧(16≤q)∧True) (fun ρ _=>64-(intOf (ρ 5)).toNat) ⟨16,k,n,g,h,rfl,hE,c,f,AF hb21l (congrArg (List.map fun x=>U x) (by rw[hBt,show t=16 by omega])),by omega,Nat.le_refl _,trivial⟩ ?_
 clear hb21l
 clear hE c f
 rintro a2 aj ⟨q,k,n,g,h,m,hE,c,f,hb21ll,ht_q,ht16,-⟩
 have q5:=m
 have hpl_q:(Sha.pad64 (Sha.sched b q)).length=64:=Sha.pad64_length _ (by rw[Sha.sched_length];omega)
 obtain⟨Bq,hBq⟩:∃B,B=Sha.pad64 (Sha.sched b q):=⟨_,rfl⟩
 have hb21ll:aj.heap[j]? =some (.cells ((Bq).map fun x=>U x).toArray 91 (0,0)):=AF hb21ll (by rw[hBq])
 rw[←hBq]at hpl_q
 refine gS (Yk.eqI (a:=(q:Nat)) (b:=(64:Nat)) m rfl (AO _ _ _ _) ?_)
 refine cD rfl (fun ak=> ?_) fun ak=> ?_
 ·refine B5 [0,1,2,3,4,5,6,7,8,9] [] [] fun bh al=> ?_
  have hb21ll:=eb al hb21ll
  refine ys (Yk.bin (xv:=NI q) (yv:=NI 15) m rfl rfl (BL _ _ _ (by omega) (by omega)) zz) (ys (Yk.atArr0 (i:=(q)-(15)) CD A0 g rfl (by omega) zz) (ys (Yk.cell1 AV rfl rfl (cellAt hb21ll (AI (i:=(q)-(15)) (by rw[hpl_q];omega))) zz) (ys (Yk.bin (xv:=NI q) (yv:=NI 2) m rfl rfl (BL _ _ _ (by omega) (by omega)) zz) (ys (Yk.atArr0 (i:=(q)-(2)) CD A0 g rfl (by omega) zz) (ys (Yk.cell1 AV rfl rfl (cellAt hb21ll (AI (i:=(q)-(2)) (by rw[hpl_q];omega))) zz) (gS (Yk.callA2 Cs rfl rfl ((CU _ ((Bq).getD ((q)-(15)) 0) 7 (by decide)).mono ?_))))))))
  rintro e bi ⟨rfl,am⟩
  refine⟨_,rfl,?_⟩
  refine gS (Yk.callA2 Cs rfl rfl ((CU _ ((Bq).getD ((q)-(15)) 0) 18 (by decide)).mono ?_))
  rintro e bj ⟨rfl,an⟩
  refine⟨_,rfl,?_⟩
  refine gS (Yk.bin rfl rfl rfl (Ci _ _ _) (gS (Yk.bin rfl rfl rfl (DM _ _ _ 3 (by decide)) (gS (Yk.bin rfl rfl rfl (Ci _ _ _) (gS (Yk.callA2 Cs rfl rfl ((CU _ ((Bq).getD ((q)-(2)) 0) 17 (by decide)).mono ?_))))))))
  rintro e bk ⟨rfl,ao⟩
  refine⟨_,rfl,?_⟩
  refine gS (Yk.callA2 Cs rfl rfl ((CU _ ((Bq).getD ((q)-(2)) 0) 19 (by decide)).mono ?_))
  rintro e bm ⟨rfl,ap⟩
  refine⟨_,rfl,?_⟩
  refine gS (Yk.bin rfl rfl rfl (Ci _ _ _) (gS (Yk.bin rfl rfl rfl (DM _ _ _ 10 (by decide)) (gS (Yk.bin rfl rfl rfl (Ci _ _ _) (B5 [0,1,2,3,4,5,6,7,8,9,10,11,12,13,14,15] [15] [] fun bn aq=> ?_))))))
  have hb21ll:=eb ((((am.trans an).trans ao).trans ap).trans aq) hb21ll
  refine ys (Yk.bin (xv:=NI q) (yv:=NI 7) m rfl rfl (BL _ _ _ (by omega) (by omega)) zz) (ys (Yk.atArr0 (i:=(q)-(7)) CD A0 g rfl (by omega) zz) (ys (Yk.cell1 AV rfl rfl (cellAt hb21ll (AI (i:=(q)-(7)) (by rw[hpl_q];omega))) zz) (ys (Yk.bin rfl rfl rfl (BR _ _ _) zz) (ys (Yk.bin rfl rfl rfl (BR _ _ _) zz) (ys (Yk.bin (xv:=NI q) (yv:=NI 16) m rfl rfl (BL _ _ _ (by omega) (by omega)) zz) (ys (Yk.atArr0 (i:=(q)-(16)) CD A0 g rfl (by omega) zz) (ys (Yk.cell1 AV rfl rfl (cellAt hb21ll (AI (i:=(q)-(16)) (by rw[hpl_q];omega))) zz) (ys (Yk.bin rfl rfl rfl (BR _ _ _) zz) (ys (Yk.atArr0 (i:=q) CD A0 g m (by omega) zz) (yC (Yk.storeU32 (i:=q) (v:=(((Sha.high ((Bq).getD ((q)-(2)) 0))+((Bq).getD ((q)-(7)) 0))+(Sha.low ((Bq).getD ((q)-(15)) 0)))+((Bq).getD ((q)-(16)) 0)) rfl rfl hb21ll (by rw[hpl_q];omega) Fz fun a3 ar y bo=> ?_)))))))))))
  have hZ1:=((((al.trans am).trans an).trans ao).trans ap).trans aq
  have hE:=hE.trans hZ1
  have hE:=Aa hE y (Nat.le_trans ab (by omega))
  have c:=eb hZ1 c
  have c:=kb y c (by omega)
  have f:=f.trans hZ1
  have f:=Aa f y (Nat.le_trans (Nat.le_refl _) (by omega))
  clear hb21ll
  have hb21ll:=ar;clear ar
  have bp:=bl hb21ll
  have hb21ll:a3.heap[j]? =some (.cells ((Sha.pad64 (Sha.sched b (q+1))).map fun x=>U x).toArray 91 (0,0)):=AF hb21ll (congrArg (List.map fun x=>U x) (by rw[hBq];exact Sha.sched_step2 b q ht16 ak))
  refine gS (Yk.bin (xv:=NI q) (yv:=NI 1) m rfl rfl (Ap _ _ _ (by omega)) (gK (And.intro ⟨q+1,k,n,g,h,rfl,hE,c,f,AF hb21ll (rfl),by omega,by omega,trivial⟩ ?_)))
  show 64-(intOf (NI ((q)+(1)))).toNat<64-(intOf (a2 5)).toNat
  rw[q5]
  simp only[intOf,Int.toNat_natCast];omega
 obtain⟨F,hF⟩:∃F,F=Sha.sched b 64:=⟨_,rfl⟩
 have hb21ll:aj.heap[j]? =some (.cells ((F).map fun x=>U x).toArray 91 (0,0)):=AF hb21ll (by rw[hBq,show q=64 by omega,←hF,Sha.pad64_full _ (by rw[hF,Sha.sched_length])])
 have hFl:F.length=64:=by rw[hF,Sha.sched_length]
 refine gS (Yk.loadAll g hb21ll CD rfl (by rw[List.size_toArray,List.length_map,hFl];exact Fx) (gS (Yk.storeAll n (vr (.agg ((F).map fun x=>U x).toArray) rfl) c (by rw[List.size_toArray,List.size_toArray,List.length_map,List.length_map,hFl];rfl) (by rw[List.size_toArray,List.length_map,hFl];exact Fx) (C9 _) fun bq au av br=> ?_)))
 have hE:=Aa hE av (Nat.le_trans (Nat.le_refl _) (by omega))
 clear f
 have hb21ll:=kb av hb21ll (by omega)
 clear c
 have c:=au;clear au
 have bs:=bl c
 refine F6 rfl (ResF.row n c CD rfl (by rw[List.size_toArray,List.length_map,hFl];exact Fx)) ?_
 rw[hF]
 exact⟨rfl,hE⟩

theorem Mj(w:World)(hG:Laid w)(s:List UInt32)(hs:s.length=8)(v:Value)(b:List UInt8)(hb:RB w v b)(hl:b.length=64):
  Calls Tryz.prog 98 #[.agg (cellsU s),v] w fun e w' =>e = .returned (.agg (cellsU (Sha.rounds s b)))∧Ext w w' :=by
 refine gG (args:= [.agg ((s).map fun x=>U x).toArray,v]) Tryz.func98 rfl 120 rfl rfl ?_
 have hE:=Ext.refl w
 refine gS (Yk.box (cs:=((s).map fun x=>U x:List Value).toArray) (vr (.agg ((s).map fun x=>U x).toArray) rfl) fun u w3 bq az bc br=> ?_)
 have f:=az;clear az
 have bs:u<w3.heap.size:=by omega
 refine gS (Yk.alloc (cs:=((List.replicate 8 0).map fun x=>U x).toArray) IN fun y ag bd a0 ao bt=> ?_)
 have h:=Ext.refl w3
 have hE:=hE.trans bc
 have be:=hE.size
 have bu:=AE (bl f) bd
 have g:=a0;clear a0
 have bv:y<ag.heap.size:=by omega
 have f:=eb ao f
 refine gS (Yk.loadAll rfl f A9 rfl (by rw[List.size_toArray,List.length_map,hs];exact DA) (gS (Yk.alloc (cs:=((List.replicate 8 0).map fun x=>U x).toArray) IN fun k bf a1 a2 z bw=> ?_)))
 have j:=Ext.refl ag
 have hE:=hE.trans ao
 have ap:=hE.size
 have h:=h.trans ao
 have aq:=h.size
 have bx:=AE (bl f) a1
 have bz:=AE (bl g) a1
 have m:=a2;clear a2
 have b0:k<bf.heap.size:=by omega
 refine gS (Yk.storeAll (vr (PQ k 0) rfl) (vr (.agg ((s).map fun x=>U x).toArray) rfl) m (by rw[List.size_toArray,List.size_toArray,List.length_map,List.length_map,hs];rfl) (by rw[List.size_toArray,List.length_map,hs];exact DA) (C9 _) fun b1 a3 aa b2=> ?_)
 have hE:=hE.trans z
 have hE:=Aa hE aa (Nat.le_trans ap (by omega))
 have f:=eb z f
 have f:=kb aa f (by omega)
 have h:=h.trans z
 have h:=Aa h aa (Nat.le_trans aq (by omega))
 have g:=eb z g
 have g:=kb aa g (by omega)
 have j:=j.trans z
 have j:=Aa j aa (Nat.le_trans (Nat.le_refl _) (by omega))
 clear m
 have m:=a3;clear a3
 have b3:=bl m
 refine gS (Yk.callA1 Mi rfl ((J0 _ v b (hb.keep hE) hl).mono ?_))
 rintro e b4 ⟨rfl,o⟩
 refine⟨_,rfl,?_⟩
 have hE:=hE.trans o
 have f:=eb o f
 have h:=h.trans o
 have g:=eb o g
 have j:=j.trans o
 have m:=eb o m
 refine gL (fun(ρ:Ai) (wz:World)=>∃t:Nat,ρ 0=(.agg ((s).map fun x=>U x).toArray:Value)∧ρ 1=(v:Value)∧ρ 2=(PQ u 0:Value)∧ρ 4=(PQ y 0:Value)∧ρ 5=(PQ k 0:Value)∧ρ 16=(.agg ((Sha.sched b 64).map fun x=>U x).toArray:Value)∧ρ 17=(NI t:Value)∧Ext w wz∧wz.heap[u]? =some (.cells ((s).map fun x=>U x).toArray 90 (0,0))∧Ext w3 wz∧wz.heap[y]? =some (.cells ((List.replicate 8 0).map fun x=>U x).toArray 90 (0,0))∧Ext ag wz∧wz.heap[k]? =some (.cells (((Sha.turned s (Sha.sched b 64) t)).map fun x=>U x).toArray 90 (0,0))∧(t≤64)∧True) (fun ρ _=>64-(intOf (ρ 17)).toNat) ⟨0,rfl,rfl,rfl,rfl,rfl,rfl,rfl,hE,f,h,g,j,AF m (rfl),Nat.zero_le _,trivial⟩ ?_
 clear m
 clear hE f h g j
 rintro bg a4 ⟨t,T0,T1,T2,p,c,ac,n,hE,f,h,g,j,hb36l,ht,-⟩
 have q17:=n
 obtain⟨V,hV⟩:∃V,V=(Sha.turned s (Sha.sched b 64) t):=⟨_,rfl⟩
 have hb36l:a4.heap[k]? =some (.cells ((V).map fun x=>U x).toArray 90 (0,0)):=AF hb36l (by rw[hV])
 have hvl:V.length=8:=by rw[hV];exact Sha.turned_length _ _ hs _
 refine gS (Yk.eqI (a:=(t:Nat)) (b:=(64:Nat)) n rfl (AO _ _ _ _) ?_)
 refine cD rfl (fun bh=> ?_) fun bh=> ?_
 ·refine gS (Yk.idxU (l:=Sha.sched b 64) (i:=t) CD AV rfl A0 ac n (by omega) (Sha.sched_length _ _) (BV [0,1,3,4,7,8,2,5,6,9,10,11] [2,5,9] [3,6,7] [4,8] fun bi a5=> ?_))
  have aj:=Ext.refl bi
  have hb36l:=eb a5 hb36l
  refine BM aj ?_
  refine ys (Yk.atArr0 (i:=4) A9 A0 c rfl (by omega) zz) (ys (Yk.cell1 AV rfl rfl (cellAt hb36l (AI (i:=4) (by rw[hvl];omega))) zz) (yp (Yk.atArr0 (i:=4) A9 A0 c rfl (by omega) zz) (yf (fun _ ⟨hZ,_⟩=>Yk.cell1 AV rfl rfl (cellAt (eb hZ hb36l) (AI (i:=4) (by rw[hvl];omega))) zz) (yp (Yk.atArr0 (i:=4) A9 A0 c rfl (by omega) zz) (yf (fun _ ⟨hZ,_⟩=>Yk.cell1 AV rfl rfl (cellAt (eb hZ hb36l) (AI (i:=4) (by rw[hvl];omega))) zz) (yE (Yk.callA2 Cs rfl rfl ((CU _ ((V).getD (4) 0) 6 (by decide)).mono ?_))))))))
  rintro e bj ⟨rfl,ar⟩
  refine⟨_,rfl,?_⟩
  have aj:=aj.trans ar
  refine⟨aj,?_⟩
  have au:=Ext.refl bj
  refine yE (Yk.callA2 Cs rfl rfl ((CU _ ((V).getD (4) 0) 11 (by decide)).mono ?_))
  rintro e b5 ⟨rfl,av⟩
  refine⟨_,rfl,?_⟩
  have au:=au.trans av
  refine⟨au,?_⟩
  refine yp (Yk.bin rfl rfl rfl (Ci _ _ _) zz) (yD rfl (Yk.callA2 Cs rfl rfl ((CU _ ((V).getD (4) 0) 25 (by decide)).mono ?_)))
  rintro e b6 ⟨rfl,a6⟩
  refine⟨_,rfl,?_⟩
  have hb36l:=eb ((ar.trans av).trans a6) hb36l
  refine ys (Yk.bin rfl rfl rfl (Ci _ _ _) zz) (gS (Yk.atArr0 (i:=4) A9 A0 c rfl (by omega) (gS (Yk.cell1 AV rfl rfl (cellAt hb36l (AI (i:=4) (by rw[hvl];omega))) (gS (Yk.atArr0 (i:=5) A9 A0 c rfl (by omega) (gS (Yk.cell1 AV rfl rfl (cellAt hb36l (AI (i:=5) (by rw[hvl];omega))) (gS (Yk.bin rfl rfl rfl (Em _ _ _) (gS (Yk.atArr0 (i:=4) A9 A0 c rfl (by omega) (gS (Yk.cell1 AV rfl rfl (cellAt hb36l (AI (i:=4) (by rw[hvl];omega))) (gS (Yk.not32 rfl (gS (Yk.atArr0 (i:=6) A9 A0 c rfl (by omega) (gS (Yk.cell1 AV rfl rfl (cellAt hb36l (AI (i:=6) (by rw[hvl];omega))) (gS (Yk.bin rfl rfl rfl (Em _ _ _) (gS (Yk.bin rfl rfl rfl (Ci _ _ _) (B5 [0,1,2,3,4,5,6,7,8,9,10,11,12] [] [] fun b7 a7=> ?_)))))))))))))))))))))))))
  have hZ1:=(((a5.trans ar).trans av).trans a6).trans a7
  have hE:=hE.trans hZ1
  have hb36l:=eb a7 hb36l
  refine ys (Yk.atArr0 (i:=7) A9 A0 c rfl (by omega) zz) (ys (Yk.cell1 AV rfl rfl (cellAt hb36l (AI (i:=7) (by rw[hvl];omega))) zz) (ys (Yk.bin rfl rfl rfl (BR _ _ _) zz) (ys (Yk.bin rfl rfl rfl (BR _ _ _) zz) (ys (Yk.atArr0 (i:=t) CD A0 rfl n (by omega) zz) (ys (Yk.cell1 AV rfl rfl (by obtain⟨tG_,fG_,hG_⟩:=Laid.words (hG.keep hE);exact cellAt (l:=Sha.words.map fun x=>U x) hG_ (AI (l:=Sha.words) (i:=t) (by show _<64;omega))) zz) (ys (Yk.bin rfl rfl rfl (BR _ _ _) zz) (ys (Yk.bin rfl rfl rfl (BR _ _ _) zz) (BV [0,1,3,4,7,8,2,5,6,9,10,11] [2,5,9] [3,6,7] [4,8] fun bk aw=> ?_))))))))
  have ak:=Ext.refl bk
  have hb36l:=eb aw hb36l
  refine BM ak ?_
  refine ys (Yk.atArr0 (i:=0) A9 A0 c rfl (by omega) zz) (ys (Yk.cell1 AV rfl rfl (cellAt hb36l (AI (i:=0) (by rw[hvl];omega))) zz) (yp (Yk.atArr0 (i:=0) A9 A0 c rfl (by omega) zz) (yf (fun _ ⟨hZ,_⟩=>Yk.cell1 AV rfl rfl (cellAt (eb hZ hb36l) (AI (i:=0) (by rw[hvl];omega))) zz) (yp (Yk.atArr0 (i:=0) A9 A0 c rfl (by omega) zz) (yf (fun _ ⟨hZ,_⟩=>Yk.cell1 AV rfl rfl (cellAt (eb hZ hb36l) (AI (i:=0) (by rw[hvl];omega))) zz) (yE (Yk.callA2 Cs rfl rfl ((CU _ ((V).getD (0) 0) 2 (by decide)).mono ?_))))))))
  rintro e bm ⟨rfl,al⟩
  refine⟨_,rfl,?_⟩
  have ak:=ak.trans al
  refine⟨ak,?_⟩
  have ax:=Ext.refl bm
  refine yE (Yk.callA2 Cs rfl rfl ((CU _ ((V).getD (0) 0) 13 (by decide)).mono ?_))
  rintro e b8 ⟨rfl,am⟩
  refine⟨_,rfl,?_⟩
  have ax:=ax.trans am
  refine⟨ax,?_⟩
  refine yp (Yk.bin rfl rfl rfl (Ci _ _ _) zz) (yD rfl (Yk.callA2 Cs rfl rfl ((CU _ ((V).getD (0) 0) 22 (by decide)).mono ?_)))
  rintro e b9 ⟨rfl,ay⟩
  refine⟨_,rfl,?_⟩
  have hb36l:=eb ((al.trans am).trans ay) hb36l
  refine ys (Yk.bin rfl rfl rfl (Ci _ _ _) zz) (gS (Yk.atArr0 (i:=0) A9 A0 c rfl (by omega) (gS (Yk.cell1 AV rfl rfl (cellAt hb36l (AI (i:=0) (by rw[hvl];omega))) (gS (Yk.atArr0 (i:=1) A9 A0 c rfl (by omega) (gS (Yk.cell1 AV rfl rfl (cellAt hb36l (AI (i:=1) (by rw[hvl];omega))) (gS (Yk.bin rfl rfl rfl (Em _ _ _) (gS (Yk.atArr0 (i:=0) A9 A0 c rfl (by omega) (gS (Yk.cell1 AV rfl rfl (cellAt hb36l (AI (i:=0) (by rw[hvl];omega))) (gS (Yk.atArr0 (i:=2) A9 A0 c rfl (by omega) (gS (Yk.cell1 AV rfl rfl (cellAt hb36l (AI (i:=2) (by rw[hvl];omega))) (gS (Yk.bin rfl rfl rfl (Em _ _ _) (gS (Yk.bin rfl rfl rfl (Ci _ _ _) (gS (Yk.atArr0 (i:=1) A9 A0 c rfl (by omega) (gS (Yk.cell1 AV rfl rfl (cellAt hb36l (AI (i:=1) (by rw[hvl];omega))) (gS (Yk.atArr0 (i:=2) A9 A0 c rfl (by omega) (gS (Yk.cell1 AV rfl rfl (cellAt hb36l (AI (i:=2) (by rw[hvl];omega))) ?_))))))))))))))))))))))))))))))
  refine gS (Yk.bin rfl rfl rfl (Em _ _ _) (gS (Yk.bin rfl rfl rfl (Ci _ _ _) (gS (Yk.bin rfl rfl rfl (BR _ _ _) (gS (Yk.bin rfl rfl rfl (BR _ _ _) (gS (Yk.atArr0 (i:=0) A9 A0 c rfl (by omega) (gS (Yk.cell1 AV rfl rfl (cellAt hb36l (AI (i:=0) (by rw[hvl];omega))) (gS (Yk.atArr0 (i:=1) A9 A0 c rfl (by omega) (gS (Yk.cell1 AV rfl rfl (cellAt hb36l (AI (i:=1) (by rw[hvl];omega))) (gS (Yk.atArr0 (i:=2) A9 A0 c rfl (by omega) (gS (Yk.cell1 AV rfl rfl (cellAt hb36l (AI (i:=2) (by rw[hvl];omega))) (gS (Yk.atArr0 (i:=3) A9 A0 c rfl (by omega) (gS (Yk.cell1 AV rfl rfl (cellAt hb36l (AI (i:=3) (by rw[hvl];omega))) (gS (Yk.bin rfl rfl rfl (BR _ _ _) (gS (Yk.atArr0 (i:=4) A9 A0 c rfl (by omega) (gS (Yk.cell1 AV rfl rfl (cellAt hb36l (AI (i:=4) (by rw[hvl];omega))) (gS (Yk.atArr0 (i:=5) A9 A0 c rfl (by omega) ?_)))))))))))))))))))))))))))))))
  refine gS (Yk.cell1 AV rfl rfl (cellAt hb36l (AI (i:=5) (by rw[hvl];omega))) (gS (Yk.atArr0 (i:=6) A9 A0 c rfl (by omega) (gS (Yk.cell1 AV rfl rfl (cellAt hb36l (AI (i:=6) (by rw[hvl];omega))) (gS (Yk.build8 (vr (U ((((((((V).getD (7) 0)+(((Sha.rotr ((V).getD (4) 0) 6)^^^(Sha.rotr ((V).getD (4) 0) 11))^^^(Sha.rotr ((V).getD (4) 0) 25)))+((((V).getD (4) 0)&&&((V).getD (5) 0))^^^((~~~((V).getD (4) 0))&&&((V).getD (6) 0))))+(Sha.words.getD (t) 0))+((Sha.sched b 64).getD (t) 0))+(((Sha.rotr ((V).getD (0) 0) 2)^^^(Sha.rotr ((V).getD (0) 0) 13))^^^(Sha.rotr ((V).getD (0) 0) 22)))+(((((V).getD (0) 0)&&&((V).getD (1) 0))^^^(((V).getD (0) 0)&&&((V).getD (2) 0)))^^^(((V).getD (1) 0)&&&((V).getD (2) 0))))) rfl) (vr (U ((V).getD (0) 0)) rfl) (vr (U ((V).getD (1) 0)) rfl) (vr (U ((V).getD (2) 0)) rfl) (vr (U (((V).getD (3) 0)+((((((V).getD (7) 0)+(((Sha.rotr ((V).getD (4) 0) 6)^^^(Sha.rotr ((V).getD (4) 0) 11))^^^(Sha.rotr ((V).getD (4) 0) 25)))+((((V).getD (4) 0)&&&((V).getD (5) 0))^^^((~~~((V).getD (4) 0))&&&((V).getD (6) 0))))+(Sha.words.getD (t) 0))+((Sha.sched b 64).getD (t) 0)))) rfl) (vr (U ((V).getD (4) 0)) rfl) (vr (U ((V).getD (5) 0)) rfl) (vr (U ((V).getD (6) 0)) rfl) (fun w=>Pc _ _ _ _ _ _ _ _ w) (gS (Yk.storeAll c (vr (.agg ((Sha.round V (Sha.words.getD (t) 0) ((Sha.sched b 64).getD (t) 0)).map fun x=>U x).toArray) rfl) hb36l (by rw[List.size_toArray,List.size_toArray,List.length_map,List.length_map,hvl];rfl) (DA) (C9 _) fun ca a8 ad cb=> ?_)))))))))
  have hE:=hE.trans (((aw.trans al).trans am).trans ay)
  have hE:=Aa hE ad (Nat.le_trans ap (by omega))
  have hZ2:=(((hZ1.trans aw).trans al).trans am).trans ay
  have f:=eb hZ2 f
  have f:=kb ad f (by omega)
  have h:=h.trans hZ2
  have h:=Aa h ad (Nat.le_trans aq (by omega))
  have g:=eb hZ2 g
  have g:=kb ad g (by omega)
  have j:=j.trans hZ2
  have j:=Aa j ad (Nat.le_trans (Nat.le_refl _) (by omega))
  clear hb36l
  have hb36l:=a8;clear a8
  have cc:=bl hb36l
  refine gS (Yk.bin (xv:=NI t) (yv:=NI 1) n rfl rfl (Ap _ _ _ (by omega)) (gK (And.intro ⟨t+1,T0,T1,T2,p,c,ac,rfl,hE,f,h,g,j,AF hb36l (congrArg (List.map fun x=>U x) (by rw[hV];rfl)),by omega,trivial⟩ ?_)))
  show 64-(intOf (NI ((t)+(1)))).toNat<64-(intOf (bg 17)).toNat
  rw[q17]
  simp only[intOf,Int.toNat_natCast];omega
 obtain⟨T,hT⟩:∃T,T=Sha.turned s (Sha.sched b 64) 64:=⟨_,rfl⟩
 have hTl:T.length=8:=by rw[hT,Sha.turned_length _ _ hs]
 have hb36l:a4.heap[k]? =some (.cells ((T).map fun x=>U x).toArray 90 (0,0)):=AF hb36l (by rw[hV,show t=64 by omega,←hT])
 refine gL (fun(ρ:Ai) (wz:World)=>∃i:Nat,ρ 0=(.agg ((s).map fun x=>U x).toArray:Value)∧ρ 1=(v:Value)∧ρ 2=(PQ u 0:Value)∧ρ 4=(PQ y 0:Value)∧ρ 5=(PQ k 0:Value)∧ρ 16=(.agg ((Sha.sched b 64).map fun x=>U x).toArray:Value)∧ρ 17=(NI t:Value)∧ρ 107=(NI i:Value)∧Ext w wz∧wz.heap[u]? =some (.cells ((s).map fun x=>U x).toArray 90 (0,0))∧Ext w3 wz∧wz.heap[y]? =some (.cells ((List.replicate 8 0).map fun x=>U x).toArray 90 (0,0))∧Ext ag wz∧wz.heap[k]? =some (.cells ((Sha.adding T s i).map fun x=>U x).toArray 90 (0,0))∧(i≤8)∧True) (fun ρ _=>8-(intOf (ρ 107)).toNat) ⟨0,T0,T1,T2,p,c,ac,n,rfl,hE,f,h,g,j,AF hb36l (rfl),Nat.zero_le _,trivial⟩ ?_
 clear hb36l
 clear hE f h g j
 rintro bn bo ⟨i,T0,T1,T2,p,c,ac,n,q,hE,f,h,g,j,hb36ll,hi,-⟩
 have q107:=q
 have hal:(Sha.adding T s i).length=8:=by rw[Sha.adding_length,hTl]
 refine gS (Yk.eqI (a:=(i:Nat)) (b:=(8:Nat)) q rfl (AO _ _ _ _) ?_)
 refine cD rfl (fun a9=> ?_) fun a9=> ?_
 ·refine B5 [0,1,2,3,4,5,6,7,8] [8] [] fun cd r=> ?_
  have f:=eb r f
  have hb36ll:=eb r hb36ll
  refine ys (Yk.atArr0 (i:=i) A9 A0 c q (by omega) zz) (ys (Yk.cell1 AV rfl rfl (cellAt hb36ll (AI (i:=i) (by rw[hal];omega))) zz) (ys (Yk.atArr0 (i:=i) A9 A0 T2 q (by omega) zz) (ys (Yk.cell1 AV rfl rfl (cellAt f (AI (i:=i) (by rw[hs];omega))) zz) (ys (Yk.bin rfl rfl rfl (BR _ _ _) zz) (ys (Yk.atArr0 (i:=i) A9 A0 c q (by omega) zz) (yC (Yk.storeU32 (i:=i) (v:=((Sha.adding T s i).getD (i) 0)+((s).getD (i) 0)) rfl rfl hb36ll (by rw[hal];omega) Fz fun bp ba ae ce=> ?_)))))))
  have hE:=hE.trans r
  have hE:=Aa hE ae (Nat.le_trans ap (by omega))
  have f:=kb ae f (by omega)
  have h:=h.trans r
  have h:=Aa h ae (Nat.le_trans aq (by omega))
  have g:=eb r g
  have g:=kb ae g (by omega)
  have j:=j.trans r
  have j:=Aa j ae (Nat.le_trans (Nat.le_refl _) (by omega))
  clear hb36ll
  have hb36ll:=ba;clear ba
  have cf:=bl hb36ll
  have hb36ll:bp.heap[k]? =some (.cells ((Sha.adding T s (i+1)).map fun x=>U x).toArray 90 (0,0)):=AF hb36ll (rfl)
  refine gS (Yk.bin (xv:=NI i) (yv:=NI 1) q rfl rfl (Ap _ _ _ (by omega)) (gK (And.intro ⟨i+1,T0,T1,T2,p,c,ac,n,rfl,hE,f,h,g,j,AF hb36ll (rfl),by omega,trivial⟩ ?_)))
  show 8-(intOf (NI ((i)+(1)))).toNat<8-(intOf (bn 107)).toNat
  rw[q107]
  simp only[intOf,Int.toNat_natCast];omega
 obtain⟨Q,hQ⟩:∃Q,Q=Sha.rounds s b:=⟨_,rfl⟩
 have hAl:Q.length=8:=by rw[hQ,Sha.rounds_length _ _ hs]
 have hb36ll:bo.heap[k]? =some (.cells ((Q).map fun x=>U x).toArray 90 (0,0)):=AF hb36ll (congrArg (List.map fun x=>U x) ((Sha.adding_end hs hTl hi a9).trans (by rw[hQ,hT];rfl)))
 refine gS (Yk.loadAll c hb36ll A9 rfl (by rw[List.size_toArray,List.length_map,hAl];exact DA) (gS (Yk.storeAll p (vr (.agg ((Q).map fun x=>U x).toArray) rfl) g (by rw[List.size_toArray,List.size_toArray,List.length_map,List.length_map,hAl];rfl) (by rw[List.size_toArray,List.length_map,hAl];exact DA) (C9 _) fun cg bb an ch=> ?_)))
 have hE:=Aa hE an (Nat.le_trans be (by omega))
 have f:=kb an f (by omega)
 have h:=Aa h an (Nat.le_trans (Nat.le_refl _) (by omega))
 clear j
 have hb36ll:=kb an hb36ll (by omega)
 clear g
 have g:=bb;clear bb
 have ci:=bl g
 refine F6 rfl (ResF.row p g A9 rfl (by rw[List.size_toArray,List.length_map,hAl];exact DA)) ?_
 rw[hQ]
 exact⟨rfl,hE⟩
namespace Sha
theorem blocks_snoc:∀(k:Nat) (s:List UInt32) (b:List UInt8),blocks s b (k+1)=rounds (blocks s b k) ((b.drop (64*k)).take 64)
  | 0,s,b=>by simp[blocks]
  | k+1,s,b=>by
    rw[blocks,blocks_snoc k,blocks,List.drop_drop]
    rw[show 64+64*k=64*(k+1) by omega]
theorem blocks_append:∀(k:Nat) (s:List UInt32) (b c:List UInt8),64*k≤b.length→blocks s (b++c) k=blocks s b k
  | 0,_,_,_,_=>rfl
  | k+1,s,b,c,h=>by
    rw[blocks,blocks,List.take_append_of_le_length (by omega),List.drop_append_of_le_length (by omega),blocks_append k _ _ _ (by rw[List.length_drop];omega)]
structure At (p : List UInt8) (s : List UInt32) (r : List UInt8) : Prop where
  state:s=blocks first p (p.length/64)
  len:r.length=64
  rest:r.take (p.length%64)=p.drop (64*(p.length/64))
theorem At.slen{p:List UInt8}{s:List UInt32}{r:List UInt8}(h:At p s r):s.length=8:=by rw[h.state];exact blocks_length _ _ _ rfl
theorem At.put{p:List UInt8}{s:List UInt32}{r:List UInt8}(h:At p s r)(x:List UInt8)(hx:p.length%64+x.length<64):
    At (p++x) s (r.take (p.length%64)++x++r.drop (p.length%64+x.length)):=by
  have hl:(p++x).length=p.length+x.length:=List.length_append
  have hd:(p++x).length/64=p.length/64:=by rw[hl];omega
  have hm:(p++x).length%64=p.length%64+x.length:=by rw[hl];omega
  have hr:=h.len
  refine⟨?_,?_,?_⟩
  · rw[hd,blocks_append _ _ _ _ (by omega)];exact h.state
  · simp only[List.length_append,List.length_take,List.length_drop];omega
  · have e:(r.take (p.length%64)++x).length=p.length%64+x.length:=by rw[List.length_append,List.length_take];omega
    rw[hm,hd,List.take_append_of_le_length (by omega),List.take_of_length_le (by omega),h.rest,List.drop_append_of_le_length (by omega)]
theorem At.fill{p:List UInt8}{s:List UInt32}{r:List UInt8}(h:At p s r)(x:List UInt8)(hx:p.length%64+x.length=64):
    At (p++x) (rounds s (r.take (p.length%64)++x)) (r.take (p.length%64)++x):=by
  have hl:(p++x).length=p.length+x.length:=List.length_append
  have hd:(p++x).length/64=p.length/64+1:=by rw[hl];omega
  have hm:(p++x).length%64=0:=by rw[hl];omega
  have hr:=h.len
  have e:(r.take (p.length%64)++x).length=64:=by rw[List.length_append,List.length_take];omega
  refine⟨?_,e,?_⟩
  · rw[hd,blocks_snoc,blocks_append _ _ _ _ (by omega),←h.state,List.drop_append_of_le_length (by omega),←h.rest]
    exact congrArg _ (List.take_of_length_le (Nat.le_of_eq e)).symm
  · rw[hm,hd,List.take_zero,List.drop_of_length_le (by omega)]
theorem at_nil:At [] first (List.replicate 64 0):=⟨rfl,by simp,by simp⟩
end Sha
open Go.RowKit
section
variable {P : Program}
theorem Yk.sliceArrL{K:Value→World→Prop}{ρ:Tmp→Value}{t e:TypeId}{n:Nat}(ht:P.underlying t=some (.array n e))(he:∀w' :World,(sizeOf e).run P w' = .ok 1 w'){x lo:Operand}{d:Option Tmp}{ty:TypeId}{pos:String}{af:Array Edge}{gd:Option (Nat × Bool)}{w:World}{b o i:Nat}{k:IntKind} 
    (hx:Ab ρ x = .pointer (some ⟨b,o,none⟩)) (hl:Ab ρ lo = .int k (i:Int)) (hi:i<n) (hk:K (.slice (some ⟨b,o+i,none⟩) (n-i) (n-i)) w):Yk P K ((execOp (Ab ρ) ⟨d, .slice t x (some lo) none none,ty,pos,af,gd⟩).run P w):=by
  refine Yk.value (v:= .slice (some ⟨b,o+i,none⟩) (n-i) (n-i)) (w' :=w) ?_ hk
  have hE:P.elem t=e:=by simp[Program.elem,ht]
  have hN:P.arrayLen t=n:=by simp[Program.arrayLen,ht]
  have hr:=run_sliceAt_array_l (P:=P) (w:=w) (t:=t) (a:=⟨b,o,none⟩) (by rw[hE,hN];exact ht) k (i:Int) (by omega) (by rw[hN];omega)
  rw[hE,he,hN]at hr
  unfold execOp
  simp only[hx,hl,Option.map_some,Option.map_none,Sem.run_bind,hr,Result.andThen_ok,Sem.run_pure]
  have:n≠i:=by omega
  simp[slicedAt,this,Addr.add_lit]
theorem LA{w:World}{b:Nat}{l:List Value}{t:TypeId}{fr:Nat × Nat}(h:w.heap[b]? =some (.cells l.toArray t fr)){i:Nat}{v:Value}(hi:l[i]? =some v):w.cell? ⟨b,i,none⟩=some v:=by
  simp[World.cell?,h,hi]
end
def hashL(s:List UInt32)(r:List UInt8)(f n:Nat):List Value:=(s.map fun x=>U x)++(Lib.byteCells r++ [NI f,NI n])
theorem Cd{s:List UInt32}{r:List UInt8}{f n:Nat}(hs:s.length=8)(hr:r.length=64):(hashL s r f n).length=74:=by
  simp[hashL,Lib.byteCells,hs,hr]
theorem FA{s:List UInt32}{r:List UInt8}{f n:Nat}(hs:s.length=8)(hr:r.length=64):(hashL s r f n)[72]? =some (NI f):=by
  unfold hashL
  rw[List.getElem?_append_right (by simp[hs]),List.getElem?_append_right (by simp[Lib.byteCells,hs,hr])]
  simp[Lib.byteCells,hs,hr]
theorem hashL_size{s:List UInt32}{r:List UInt8}{f n:Nat}(hs:s.length=8)(hr:r.length=64):(hashL s r f n)[73]? =some (NI n):=by
  unfold hashL
  rw[List.getElem?_append_right (by simp[hs]),List.getElem?_append_right (by simp[Lib.byteCells,hs,hr])]
  simp[Lib.byteCells,hs,hr]
theorem FP{s:List UInt32}{r:List UInt8}{f n g:Nat}(hs:s.length=8)(hr:r.length=64):(hashL s r f n).set 72 (NI g)=hashL s r g n:=by
  unfold hashL
  rw[List.set_append_right _ _ (by simp[hs]),List.set_append_right _ _ (by simp[Lib.byteCells,hs,hr])]
  simp[Lib.byteCells,hs,hr]
theorem FQ{s:List UInt32}{r:List UInt8}{f n g:Nat}(hs:s.length=8)(hr:r.length=64):(hashL s r f n).set 73 (NI g)=hashL s r f g:=by
  unfold hashL
  rw[List.set_append_right _ _ (by simp[hs]),List.set_append_right _ _ (by simp[Lib.byteCells,hs,hr])]
  simp[Lib.byteCells,hs,hr]
theorem Mk{s:List UInt32}{r x:List UInt8}{f n at_:Nat}(hs:s.length=8)(hr:r.length=64)(hx:at_+x.length≤64):
    (hashL s r f n).take (8+at_)++Lib.byteCells x++(hashL s r f n).drop (8+at_+x.length)=hashL s (r.take at_++x++r.drop (at_+x.length)) f n:=by
  unfold hashL
  have h8:(s.map fun x=>U x).length=8:=by simp[hs]
  have hb:(Lib.byteCells r).length=64:=by simp[Lib.byteCells,hr]
  rw[List.take_append,List.drop_append,h8,List.take_of_length_le (by omega),List.drop_of_length_le (l:=s.map fun x=>U x) (by omega)]
  rw[show 8+at_-8=at_ by omega,show 8+at_+x.length-8=at_+x.length by omega,List.nil_append]
  rw[List.take_append_of_le_length (by omega),List.drop_append_of_le_length (by omega)]
  simp[Lib.byteCells,List.map_take,List.map_drop]
theorem La{s s' :List UInt32}{r:List UInt8}{f n:Nat}(hs:s.length=8):(s'.map fun x=>U x)++(hashL s r f n).drop 8=hashL s' r f n:=by
  unfold hashL
  rw[List.drop_left' (by simp[hs])]
theorem Nf{s:List UInt32}{r:List UInt8}{f n:Nat}{j:Nat}{v:Value}(h:(s.map fun x=>U x)[j]? =some v):(hashL s r f n)[j]? =some v:=by
  unfold hashL
  rw[List.getElem?_append_left (List.getElem?_eq_some_iff.1 h).1]
  exact h
theorem GR{w:World}{g:Nat}{s:List UInt32}{r:List UInt8}{f n:Nat}{t:TypeId}{fr:Nat × Nat}(h:w.heap[g]? =some (.cells (hashL s r f n).toArray t fr)):w.rangeAt g 0 (s.map fun x=>U x):=fun j v hv=>by
  rw[Nat.zero_add]
  exact LA h (Nf hv)
theorem Q7{w:World}{g:Nat}{s:List UInt32}{r:List UInt8}{f n:Nat}{t:TypeId}{fr:Nat × Nat}(hs:s.length=8)(hr:r.length=64)(h:w.heap[g]? =some (.cells (hashL s r f n).toArray t fr)):RB w (.slice (some ⟨g,8,none⟩) 64 64) r:=by
  refine⟨by simp[Lib.byteCells],some ⟨g,8,none⟩,64,by rw[hr],by rw[hr];exact Nat.le_refl _,by decide,fun e=>by simp at e,fun a ha j v hv=> ?_⟩
  cases ha
  rw[Addr.add_lit]
  refine LA h ?_
  unfold hashL
  have h8:(s.map fun x=>U x).length=8:=by simp[hs]
  rw[List.getElem?_append_right (by omega),h8,show 8+j-8=j by omega,List.getElem?_append_left (List.getElem?_eq_some_iff.1 hv).1]
  exact hv
theorem Laid.kept{w w' :World}(h:Laid w){g:Nat}(hg:w.grownBy w' (some g))(h1:1<g):Laid w' :=
  ⟨by obtain⟨t,fr,h2⟩:=h.first;exact⟨t,fr,(hg.block 0 (Array.getElem?_eq_some_iff.1 h2).1 (by simp;omega)).trans h2⟩,by obtain⟨t,fr,h2⟩:=h.words;exact⟨t,fr,(hg.block 1 (Array.getElem?_eq_some_iff.1 h2).1 (by simp;omega)).trans h2⟩⟩
open Go.RowKit
theorem FR{P:Program}{w:World}:∀(l:List UInt8) (a:Addr) (acc:ByteArray),(∀j u,(Lib.byteCells l)[j]? =some u→w.cell? (a.add j)=some u)→(Extern.Bytes.loadBytes a l.length acc).run P w = .ok ⟨acc.data++l.toArray⟩ w
  | [],a,acc,_=>by simp[Extern.Bytes.loadBytes,Sem.run_pure]
  | b :: r,a,acc,h=>by
    have h0:=h 0 (B8 b) (by simp[Lib.byteCells])
    have ha:a.add 0=a:=by unfold Addr.add;split <;> simp_all
    rw[ha]at h0
    have ih:=FR (P:=P) (w:=w) r (a.add 1) (acc.push b) (fun j u hj=>by
      rw[DZ]
      refine h (1+j) u ?_
      rw[Nat.add_comm]
      simpa [Lib.byteCells] using hj)
    have hb:(((b.toNat:Nat):Int)).toNat.toUInt8=b:=by simp
    have hl:(load a).run P w = .ok (B8 b) w:=by simp[load,Sem.run,h0]
    simp only[List.length_cons,Extern.Bytes.loadBytes,Sem.run_bind,hl,Result.andThen_ok]
    rw[hb,ih]
    simp
theorem GS{P:Program}{w:World}{v:Value}{l:List UInt8}(h:RB w v l):(Extern.Bytes.bytesOf v).run P w = .ok ⟨l.toArray⟩ w:=by
  obtain⟨h1,ao,cap,rfl,h2,h3,h4,h5⟩:=h
  cases ao with
  | none=>
    have:l= []:=List.eq_nil_of_length_eq_zero (h4 rfl).1
    subst this
    rfl
  | some a=>
    have:=FR (P:=P) (w:=w) l a .empty (h5 a rfl)
    simpa [Extern.Bytes.bytesOf] using this
theorem Jt{P:Program}{w:World}{x y:Value}{l m:List UInt8}(hx:RB w x l)(hy:RB w y m):(Extern.BytealgCompare.compare #[x,y]).run P w = .ok (.int .i64 (Lib.compareBytes l m)) w:=by
  change Sem.run P (do pure (goInt (Extern.BytealgCompare.cmp (←Extern.Bytes.bytesOf x) (←Extern.Bytes.bytesOf y)))) w=_
  simp only[Sem.run_bind,GS hx,GS hy,Sem.run_pure,Result.andThen_ok]
  rw[Lib.cmp_eq]
  rfl
section
variable {P : Program} {K : Value → World → Prop} {ρ : Ai} {w : World} {d : Option Tmp} {ty : TypeId} {pos : String} {af : Array Edge} {gd : Option (Nat × Bool)}
theorem Yk.extern2{f:FuncId}{at_:Array TypeId}{x y:Operand}{a b v:Value}(hx:Ab ρ x=a)(hy:Ab ρ y=b)(hr:(callFunc f #[a,b]).run P w = .ok (.value v) w)(hk:K v w):Yk P K ((execOp (Ab ρ) ⟨d, .call ⟨.value (.func f),#[x,y],at_⟩,ty,pos,af,gd⟩).run P w):=by
  refine Yk.value (v:=v) (w' :=w) ?_ hk
  have hf:Ab ρ (.func f) = .func (.func f) #[] #[]:=rfl
  unfold execOp
  simp[resolve,hf,Deferred.ofValue,invoke,hx,hy,hr]
theorem Bg{x y:List UInt8}(hx:x.length=32)(hy:y.length=32):(Lib.byteCells x).toArray.size=(Lib.byteCells y).toArray.size:=by simp[Lib.byteCells,hx,hy]
theorem Bf{x:List UInt8}(h:(Lib.byteCells x).length=32):x.length=32:=by rwa [Lib.byteCells_length]at h
theorem RB.ofBlk{g:Nat}{l:List UInt8}{t:TypeId}{fr:Nat × Nat}(h:w.heap[g]? =some (.cells (Lib.byteCells l).toArray t fr))(hl:l.length≤9223372036854775807):RB w (.slice (some ⟨g,0,none⟩) l.length l.length) l:=
  ⟨by simp[Lib.byteCells],_,_,rfl,Nat.le_refl _,by unfold maxLen;omega,(fun h=>by cases h),fun a ha j u hu=>by
    cases ha
    rw[Addr.add_lit,Nat.zero_add]
    exact cellAt h hu⟩
theorem RB.ofBlkN{g n:Nat}{l:List UInt8}{t:TypeId}{fr:Nat × Nat}(h:w.heap[g]? =some (.cells (Lib.byteCells l).toArray t fr))(hn:l.length=n)(hl:n≤9223372036854775807):RB w (.slice (some ⟨g,0,none⟩) n n) l:=by
  subst hn
  exact RB.ofBlk h hl
end
/-! ### The order of rows of bytes -/
theorem G5:∀a:List UInt8,Lib.compareBytes a a=0
  | []=>rfl
  | x :: a=>by simp[Lib.compareBytes,UInt8.lt_irrefl,G5 a]
theorem Ng:∀a b:List UInt8,Lib.compareBytes a b = -1∨Lib.compareBytes a b=0∨Lib.compareBytes a b=1
  | [],[]=> .inr (.inl rfl)
  | [],_ :: _=> .inl rfl
  | _ :: _,[]=> .inr (.inr rfl)
  | x :: a,y :: b=>by
    unfold Lib.compareBytes
    split
    · exact .inl rfl
    · split
      · exact .inr (.inr rfl)
      · exact Ng a b
theorem G6:∀ {a b:List UInt8},Lib.compareBytes a b=0→a=b
  | [],[],_=>rfl
  | [],_ :: _,h=>by simp[Lib.compareBytes]at h
  | _ :: _,[],h=>by simp[Lib.compareBytes]at h
  | x :: a,y :: b,h=>by
    unfold Lib.compareBytes at h
    split at h
    · cases h
    · split at h
      · cases h
      · rename_i h1 h2
        have hxy:x=y:=UInt8.le_antisymm (UInt8.not_lt.1 h2) (UInt8.not_lt.1 h1)
        rw[hxy,G6 h]
theorem EA:∀a b:List UInt8,Lib.compareBytes a b = - Lib.compareBytes b a
  | [],[]=>rfl
  | [],_ :: _=>rfl
  | _ :: _,[]=>rfl
  | x :: a,y :: b=>by
    unfold Lib.compareBytes
    by_cases h1:x<y
    · rw[if_pos h1,if_neg (UInt8.lt_asymm h1),if_pos h1]
    · by_cases h2:y<x
      · rw[if_neg h1,if_pos h2,if_pos h2];rfl
      · rw[if_neg h1,if_neg h2,if_neg h2,if_neg h1]
        exact EA a b
theorem Eu:∀ {a b c:List UInt8},Lib.compareBytes a b≤0→Lib.compareBytes b c≤0→Lib.compareBytes a c≤0
  | [],_,[],_,_=>by simp[Lib.compareBytes]
  | [],_,_ :: _,_,_=>by simp[Lib.compareBytes]
  | _ :: _,[],_,h,_=>by simp[Lib.compareBytes]at h
  | _ :: _,_ :: _,[],_,h=>by simp[Lib.compareBytes]at h
  | x :: a,y :: b,z :: c,h1,h2=>by
    unfold Lib.compareBytes at h1 h2 ⊢
    by_cases xy:x<y
    · by_cases yz:y<z
      · rw[if_pos (UInt8.lt_trans xy yz)];decide
      · by_cases zy:z<y
        · rw[if_neg yz,if_pos zy]at h2;exact absurd h2 (by decide)
        · have:y=z:=UInt8.le_antisymm (UInt8.not_lt.1 zy) (UInt8.not_lt.1 yz)
          rw[←this,if_pos xy];decide
    · by_cases yx:y<x
      · rw[if_neg xy,if_pos yx]at h1;exact absurd h1 (by decide)
      · have e:x=y:=UInt8.le_antisymm (UInt8.not_lt.1 yx) (UInt8.not_lt.1 xy)
        subst e
        rw[if_neg xy,if_neg xy]at h1
        by_cases xz:x<z
        · rw[if_pos xz];decide
        · by_cases zx:z<x
          · rw[if_neg xz,if_pos zx]at h2;exact absurd h2 (by decide)
          · rw[if_neg xz,if_neg zx]at h2 ⊢
            exact Eu h1 h2
def Cb(l:List (List UInt8)):Prop:=l.Pairwise fun a b=>Lib.compareBytes a b≤0
theorem G7:∀ {l m:List (List UInt8)},Cb l→Cb m→l.Perm m→l=m
  | [],m,_,_,h=>(List.nil_perm.1 h).symm
  | l,[],_,_,h=>List.perm_nil.1 h
  | a :: l,b :: m,h1,h2,h=>by
    have ha:=List.pairwise_cons.1 h1
    have hb:=List.pairwise_cons.1 h2
    have e:a=b:=by
      have m1:a∈b :: m:=h.subset (by simp)
      have m2:b∈a :: l:=h.symm.subset (by simp)
      rcases List.mem_cons.1 m1 with e | m1
      · exact e
      · rcases List.mem_cons.1 m2 with e | m2
        · exact e.symm
        · have k1:=hb.1 a m1
          have k2:=ha.1 b m2
          have k3:=EA a b
          exact G6 (by omega)
    subst e
    rw[G7 ha.2 hb.2 (List.Perm.cons_inv h)]
def G8(x:List UInt8):List (List UInt8)→List (List UInt8)
  | []=> [x]
  | a :: r=>if Lib.compareBytes x a≤0 then x :: a :: r else a :: G8 x r
def EX:List (List UInt8)→List (List UInt8)
  | []=> []
  | a :: r=>G8 a (EX r)
theorem Ga(x:List UInt8):∀l,(G8 x l).Perm (x :: l)
  | []=>List.Perm.refl _
  | a :: r=>by
    unfold G8
    split
    · exact List.Perm.refl _
    · exact((Ga x r).cons a).trans (List.Perm.swap x a r)
theorem DB:∀l,(EX l).Perm l
  | []=>List.Perm.refl _
  | a :: r=>(Ga a _).trans ((DB r).cons a)
theorem J1(x:List UInt8):∀l,Cb l→Cb (G8 x l)
  | [],_=>by simp[G8,Cb]
  | a :: r,h=>by
    have hr:=List.pairwise_cons.1 h
    unfold G8
    split
    · rename_i hx
      refine List.pairwise_cons.2 ⟨fun c hc=> ?_,h⟩
      rcases List.mem_cons.1 hc with rfl | hc
      · exact hx
      · exact Eu hx (hr.1 c hc)
    · rename_i hx
      refine List.pairwise_cons.2 ⟨fun c hc=> ?_,J1 x r hr.2⟩
      rcases List.mem_cons.1 ((Ga x r).subset hc)with rfl | hc
      · have:=EA c a
        omega
      · exact hr.1 c hc
theorem EY:∀l,Cb (EX l)
  | []=>List.Pairwise.nil
  | a :: r=>J1 a _ (EY r)
theorem Nh(l:List (List UInt8)):(EX l).length=l.length:=(DB l).length_eq
theorem IO{l m:List (List UInt8)}(h:Cb m)(hp:m.Perm l):m=EX l:=G7 h (EY l) (hp.trans (DB l).symm)
open Go.RowKit
section
variable {P : Program}
theorem Dt{t e:TypeId}{size:Nat}(ht:P.underlying t=some (.slice e))(he:∀w' :World,(sizeOf e).run P w' = .ok size w'){w:World}{v:Value}{n:Nat}{xs:List Value}(hr:Reads w size v n xs)(lo hi:Option Value)(l h:Nat)(hlh:l≤h)(hn:h≤n) 
    (hlo:lo=none∧l=0∨∃k,lo=some (.int k l)) (hhi:hi=none∧h=n∨∃k,hi=some (.int k h)):
    ∃ao c,((∀w:World,(Instr.sliceAt t v lo hi none).run P w = .ok (.slice ao (h-l) c) w)∧(Value.slice ao (h-l) c).ownBlock=v.ownBlock)∧Reads w size (.slice ao (h-l) c) (h-l) ((xs.drop (l*size)).take ((h-l)*size)):=by
  obtain⟨h1,ao,cap,rfl,h2,h3,h4,h5⟩:=hr
  have hE:P.elem t=e:=by simp[Program.elem,ht]
  have ht' :P.underlying t=some (.slice (P.elem t)):=by rw[hE];exact ht
  refine⟨if cap=l then ao else ao.map (·.add (l*size)),cap-l,⟨?_,?_⟩,?_,_,_,rfl,by omega,by omega,?_,?_⟩
  · intro w
    rw[run_sliceAt_slice (P:=P) w t _ _ _ _ ht']
    have hl' :(l:Int)≤(h:Int):=by omega
    have hh' :(h:Int)≤(cap:Int):=by omega
    have hn' :(l:Int)≤(n:Int):=by omega
    rcases hlo with ⟨rfl,rfl⟩ | ⟨k,rfl⟩ <;> rcases hhi with ⟨rfl,rfl⟩ | ⟨k',rfl⟩
    · rw[run_slice_all (P:=P) w t ao h cap ht',hE,he]
      simp[Result.andThen,sliced]
    · rw[run_slice_h (P:=P) w t ao n cap ht' k' h (by omega) hh',hE,he]
      simp[Result.andThen,sliced]
    · rw[run_slice_l (P:=P) w t ao h cap ht' k l (by omega) hl',hE,he]
      simp[Result.andThen,sliced]
    · rw[run_slice_lh (P:=P) w t ao n cap ht' k k' l h (by omega) hl' hh',hE,he]
      simp[Result.andThen,sliced]
  · cases ao with
    | none=>simp[Value.ownBlock]
    | some x=>
      split
      · rfl
      · simp only[Option.map_some,Value.ownBlock,Option.some.injEq]
        unfold Addr.add
        split <;> rfl
  · rw[List.length_take,List.length_drop,h1]
    have:(h-l)*size≤n*size-l*size:=by rw[←Nat.sub_mul];exact Nat.mul_le_mul_right _ (by omega)
    omega
  · intro hnone
    have:ao=none:=by
      cases ao with
      | none=>rfl
      | some x=>split at hnone <;> simp at hnone
    obtain⟨h6,h7⟩:=h4 this
    omega
  · intro a ha j u hu
    have hj:j<((xs.drop (l*size)).take ((h-l)*size)).length:=(List.getElem?_eq_some_iff.1 hu).1
    have hj2:j<(h-l)*size:=by rw[List.length_take]at hj;omega
    have hhl:h-l≠0:=fun e=>by rw[e]at hj2;simp at hj2
    rw[if_neg (by omega)]at ha
    cases ao with
    | none=>simp at ha
    | some x=>
      simp at ha
      subst ha
      rw[DZ]
      refine h5 x rfl _ _ ?_
      rw[List.getElem?_take,if_pos hj2,List.getElem?_drop]at hu
      exact hu
end
section
variable {P : Program} {K : Value → World → Prop} {ρ : Ai} {w w0 : World} {d : Option Tmp} {ty : TypeId} {pos : String} {af : Array Edge} {gd : Option (Nat × Bool)}
variable {α : Type} {k : Nat} {enc : α → List Value} {t e : TypeId}
theorem Yk.sliceLoW(ht:P.underlying t=some (.slice e))(he:∀w' :World,(sizeOf e).run P w' = .ok k w'){x lo:Operand}{v:Value}{xs:List α}(hx:Ab ρ x=v)(h:RG k enc w0 v xs){kd:IntKind}{l:Nat}(hlo:Ab ρ lo = .int kd (l:Int))(hl:l≤xs.length) 
    (hk:∀v',RG k enc w0 v' (xs.drop l)→v'.ownBlock=v.ownBlock→K v' w):Yk P K ((execOp (Ab ρ) ⟨d, .slice t x (some lo) none none,ty,pos,af,gd⟩).run P w):=by
  obtain⟨ao,c,⟨hrun,hb⟩,hR⟩:=Dt ht he h.2 (some (.int kd l)) none l xs.length hl (Nat.le_refl _) (.inr ⟨kd,rfl⟩) (.inl ⟨rfl,rfl⟩)
  have hR' :=RG.cut h.1 hl (Nat.le_refl _) hR
  rw[List.take_of_length_le (by rw[List.length_drop];exact Nat.le_refl _)]at hR'
  refine Yk.value (v:= .slice ao (xs.length-l) c) (w' :=w) ?_ (hk _ hR' hb)
  unfold execOp
  simp only[hx,hlo,Option.map_some,Option.map_none,hrun,Sem.run_bind,Sem.run_pure,Result.andThen_ok]
theorem Yk.sliceHiW(ht:P.underlying t=some (.slice e))(he:∀w' :World,(sizeOf e).run P w' = .ok k w'){x hi:Operand}{v:Value}{xs:List α}(hx:Ab ρ x=v)(h:RG k enc w0 v xs){kd:IntKind}{n:Nat}(hhi:Ab ρ hi = .int kd (n:Int))(hl:n≤xs.length) 
    (hk:∀v',RG k enc w0 v' (xs.take n)→v'.ownBlock=v.ownBlock→K v' w):Yk P K ((execOp (Ab ρ) ⟨d, .slice t x none (some hi) none,ty,pos,af,gd⟩).run P w):=by
  obtain⟨ao,c,⟨hrun,hb⟩,hR⟩:=Dt ht he h.2 none (some (.int kd n)) 0 n (Nat.zero_le _) hl (.inl ⟨rfl,rfl⟩) (.inr ⟨kd,rfl⟩)
  have hR' :=RG.cut h.1 (Nat.zero_le _) hl hR
  rw[List.drop_zero,Nat.sub_zero]at hR'
  refine Yk.value (v:= .slice ao (n-0) c) (w' :=w) ?_ (hk _ hR' hb)
  unfold execOp
  simp only[hx,hhi,Option.map_some,Option.map_none,hrun,Sem.run_bind,Sem.run_pure,Result.andThen_ok]
theorem Eg{P:Program}{e:TypeId}{k b:Nat}(h:(P.info? e).map (fun i=>(i.zero.map (fun z=>z.cells.size),i.size,i.bytes))=some (some k,k,b)):∃z,(P.info? e).map (fun i=>(i.zero,i.size,i.bytes))=some (some z,k,b)∧z.cells.size=k:=by
  cases hi:P.info? e with
  | none=>rw[hi]at h;cases h
  | some i=>
    rw[hi]at h
    simp only[Option.map_some,Option.some.injEq,Prod.mk.injEq]at h
    cases hz:i.zero with
    | none=>rw[hz]at h;cases h.1
    | some z=>
      rw[hz]at h
      simp only[Option.map_some,Option.some.injEq]at h
      exact⟨z,by simp[hz,h.2.1,h.2.2],h.1⟩
theorem Yk.makeG(base:Nat)(z:Value)(bytes:Nat)(ht:P.underlying t=some (.slice e))(hi:(P.info? e).map (fun i=>(i.zero,i.size,i.bytes))=some (some z,k,bytes)){x y:Operand}{kl kc:IntKind}{n:Nat}(hx:Ab ρ x = .int kl 0)(hy:Ab ρ y = .int kc (n:Int))(hb:bytes*n≤281474976710656)(hn:n≤9223372036854775807)(hbase:base≤w.heap.size) 
    (hk:∀v w',OG base e k enc w' v ([]:List α)→Ext w w' →K v w'):Yk P K ((execOp (Ab ρ) ⟨d, .makeSlice t x y,ty,pos,af,gd⟩).run P w):=by
  obtain⟨i,hi,hz,hsize,hby⟩:=info_parts hi
  obtain⟨w',hr,h2,h3⟩:=run_make_own (P:=P) (w:=w) base t e i z k ht hi hz hsize kl kc n (by rw[hby];exact hb) (by unfold maxLen;omega) hbase
  refine Yk.value (v:= .slice (some ⟨w.heap.size,0,none⟩) 0 n) (w' :=w') ?_ (hk _ w' ⟨by simp,h2⟩ (Ext.of h3))
  unfold execOp
  simp only[hx,hy,hr,Sem.run_bind,Sem.run_pure,Result.andThen_ok]
theorem Yk.atSl0(ht:P.underlying t=some (.slice e))(he:∀w' :World,(sizeOf e).run P w' = .ok 1 w'){x y:Operand}{b i n c:Nat}{kd:IntKind}(hx:Ab ρ x = .slice (some ⟨b,0,none⟩) n c)(hy:Ab ρ y = .int kd (i:Int))(hi:i<n)(hk:K (.pointer (some ⟨b,i,none⟩)) w):Yk P K ((execOp (Ab ρ) ⟨d, .indexAddr t x y,ty,pos,af,gd⟩).run P w):=
  Yk.atSl ht he hx hy hi (by rw[Nat.zero_add];exact hk)
theorem OG.base{α:Type}{b b' k:Nat}{e:TypeId}{enc:α→List Value}{v:Value}{l:List α}(h:OG b e k enc w v l)(hb:b' ≤b):OG b' e k enc w v l:=⟨h.1,BZ h.2 hb⟩
def Ev{α:Type}(B N:Nat)(e:TypeId)(k:Nat)(enc:α→List Value)(r:Option Nat)(l:List α)(x:Value)(w' :World):Prop:=OG B e k enc w' x l∧∀k,x.ownBlock=some k→r=some k∨N≤k
theorem RG.nilOwn(w:World)(b:Nat)(e:TypeId):OG b e k enc w (.slice none 0 0) ([]:List α):=OG.nil b e k enc w
structure MI (l O A B : List (List UInt8)) : Prop where
  perm:(O++(A++B)).Perm l
  ascO:Cb O
  ascA:Cb A
  ascB:Cb B
  le:∀x∈O,∀y∈A++B,Lib.compareBytes x y≤0
theorem MI.start{l A B:List (List UInt8)}{h:Nat}(hA:A.Perm (l.take h))(hB:B.Perm (l.drop h))(a1:Cb A)(b1:Cb B):MI l [] A B:=
  ⟨by rw[List.nil_append];exact(hA.append hB).trans (by rw[List.take_append_drop]),List.Pairwise.nil,a1,b1,by simp⟩
theorem MI.left{l O A B:List (List UInt8)}(h:MI l O A B)(hA:0<A.length)(hB:0<B.length)(hc:Lib.compareBytes (A.getD 0 []) (B.getD 0 [])≤0):MI l (O++ [A.getD 0 []]) (A.drop 1) B:=by
  match A,B,hA,hB,h,hc with
  | a :: A,b :: B,_,_,h,hc=>
    simp only[List.getD_cons_zero,List.drop_succ_cons,List.drop_zero]at hc ⊢
    have hp:=List.pairwise_cons.1 h.ascA
    have hq:=List.pairwise_cons.1 h.ascB
    have hall:∀y∈A++b :: B,Lib.compareBytes a y≤0:=fun y hy=>by
      rcases List.mem_append.1 hy with h1 | h1
      · exact hp.1 y h1
      · rcases List.mem_cons.1 h1 with rfl | h1
        · exact hc
        · exact Eu hc (hq.1 y h1)
    refine⟨by rw[List.append_assoc];exact h.perm,?_,hp.2,h.ascB,?_⟩
    · unfold Cb
      rw[List.pairwise_append]
      exact⟨h.ascO,by simp,fun x hx y hy=>by rw[List.mem_singleton.1 hy];exact h.le x hx a (by simp)⟩
    · intro x hx y hy
      rcases List.mem_append.1 hx with h1 | h1
      · exact h.le x h1 y (by simp only[List.cons_append,List.mem_cons];exact .inr hy)
      · rw[List.mem_singleton.1 h1];exact hall y hy
theorem MI.right{l O A B:List (List UInt8)}(h:MI l O A B)(hA:0<A.length)(hB:0<B.length)(hc:¬Lib.compareBytes (A.getD 0 []) (B.getD 0 [])≤0):MI l (O++ [B.getD 0 []]) A (B.drop 1):=by
  match A,B,hA,hB,h,hc with
  | a :: A,b :: B,_,_,h,hc=>
    simp only[List.getD_cons_zero,List.drop_succ_cons,List.drop_zero]at hc ⊢
    have hp:=List.pairwise_cons.1 h.ascA
    have hq:=List.pairwise_cons.1 h.ascB
    have hba:Lib.compareBytes b a≤0:=by have:=EA a b;omega
    have hall:∀y∈a :: A++B,Lib.compareBytes b y≤0:=fun y hy=>by
      rcases List.mem_append.1 hy with h1 | h1
      · rcases List.mem_cons.1 h1 with rfl | h1
        · exact hba
        · exact Eu hba (hp.1 y h1)
      · exact hq.1 y h1
    refine⟨?_,?_,h.ascA,hq.2,?_⟩
    · refine List.Perm.trans ?_ h.perm
      rw[List.append_assoc]
      refine List.Perm.append_left O ?_
      simp only[List.singleton_append]
      exact(List.perm_middle (l₁:=a :: A) (l₂:=B) (a:=b)).symm
    · unfold Cb
      rw[List.pairwise_append]
      exact⟨h.ascO,by simp,fun x hx y hy=>by rw[List.mem_singleton.1 hy];exact h.le x hx b (by simp)⟩
    · intro x hx y hy
      rcases List.mem_append.1 hx with h1 | h1
      · exact h.le x h1 y (by
          rcases List.mem_append.1 hy with h2 | h2
          · exact List.mem_append_left _ h2
          · exact List.mem_append_right _ (by simp[h2]))
      · rw[List.mem_singleton.1 h1];exact hall y hy
theorem MI.done{l O A B:List (List UInt8)}(h:MI l O A B)(he:A.length=0∨B.length=0):((O++A)++B).Perm l∧Cb ((O++A)++B):=by
  refine⟨by rw[List.append_assoc];exact h.perm,?_⟩
  rw[List.append_assoc]
  unfold Cb
  rw[List.pairwise_append]
  refine⟨h.ascO,?_,h.le⟩
  rcases he with he | he
  · rw[List.eq_nil_of_length_eq_zero he,List.nil_append];exact h.ascB
  · rw[List.eq_nil_of_length_eq_zero he,List.append_nil];exact h.ascA
theorem Ni{l:List (List UInt8)}(h:l.length<2):Cb l:=by
  match l,h with
  | [],_=>exact List.Pairwise.nil
  | [a],_=>simp[Cb]
end
open Go.RowKit
set_option maxRecDepth 100000
set_option linter.unusedVariables false
set_option linter.unusedSimpArgs false
theorem QM{α β:Type}{ek:α→Value}{ev:β→Value}{D:α→Prop}{w w' :World}{m:Nat}{G:α→Option β}(h:MapF ek ev D w m G)(hg:w.grownBy w' (some m)){b:Nat}{cs:Array Value}{t:TypeId}{fr:Nat × Nat}(hb:w.heap[b]? =some (.cells cs t fr)):w'.heap[b]? =some (.cells cs t fr):=
 kb hg hb fun e=>by obtain⟨es,c,h1,-⟩:=h;rw[e,h1]at hb;cases hb
set_option maxHeartbeats 1600000
theorem Q8{ev:Nat→Value}(w:World)(m:Nat)(G:List UInt8→Option Nat)(hM:MapF St ev Nm w m (G))(bf bn fk k:Nat)(to:List UInt8)(h1:w.heap[bf]? =some (.cells ([PQ fk 0]).toArray 81 (0,0)))(h2:w.heap[bn]? =some (.cells ([St to]).toArray 9 (0,0)))(hev:PQ fk 0=ev k)(ht:Nm to):
  Calls Tryz.prog 57 #[.map (some m),PQ bf 0,PQ bn 0] w fun e w' =>e = .returned (.tuple #[])∧MapF St ev Nm w' m (updM G to (some k))∧w.grownBy w' (some m):=by
 have a:=World.grownBy.refl w (some m)
 refine gG (args:= [.map (some m),PQ bf 0,PQ bn 0]) Tryz.func57 rfl 7 rfl rfl ?_
 have hE:=Ext.refl w
 refine gS (Yk.cell1 Io rfl rfl (cellAt h2 rfl) (gS (Yk.cell1 JX rfl rfl (cellAt h1 rfl) (gS (Yk.putM (ev:=ev) (c:=k) E4 En JW (vr (.map (some m)) rfl) (vr (St (to)) rfl) (Eq.trans ((vr (PQ fk 0) rfl)) hev) (hM.keep hE) ht fun w1 hM2 b f=> ?_)))))
 have h1:w1.heap[bf]? =some (.cells ([PQ fk 0]).toArray 81 (0,0)):=QM hM b h1
 have h2:w1.heap[bn]? =some (.cells ([St to]).toArray 9 (0,0)):=QM hM b h2
 have a:w.grownBy w1 (some m):=Aq a b (fun _ e=> .inl e)
 clear hE
 have hM:=hM2;clear hM2
 refine rt0 rfl ?_
 exact⟨rfl,hM,a⟩

theorem Q9{ev:Nat→Value}(w:World)(m:Nat)(G:List UInt8→Option Nat)(hM:MapF St ev Nm w m (G))(bs:Nat)(frm:List UInt8)(h3:w.heap[bs]? =some (.cells ([St frm]).toArray 9 (0,0)))(hf:Nm frm):
  Calls Tryz.prog 86 #[.map (some m),PQ bs 0] w fun e w' =>e = .returned (.tuple #[])∧MapF St ev Nm w' m (updM G frm none)∧w.grownBy w' (some m):=by
 have a:=World.grownBy.refl w (some m)
 refine gG (args:= [.map (some m),PQ bs 0]) Tryz.func86 rfl 5 rfl rfl ?_
 have hE:=Ext.refl w
 refine gS (Yk.cell1 Io rfl rfl (cellAt h3 rfl) (gS (Yk.delM E4 En (fun _ _=>Dq) JW rfl rfl (hM.keep hE) hf fun w1 hM2 b c=> ?_)))
 have h3:w1.heap[bs]? =some (.cells ([St frm]).toArray 9 (0,0)):=QM hM b h3
 have a:w.grownBy w1 (some m):=Aq a b (fun _ e=> .inl e)
 clear hE
 have hM:=hM2;clear hM2
 refine rt0 rfl ?_
 exact⟨rfl,hM,a⟩

theorem Pe{n:Nat}{l:Ba}(h:DirOk n l)(a:AM)(hn:a.to.length≠0):updM (updM (AD l) a.frm none) a.to (some a.file)=AD (turnD l a):=by
 funext t
 rw[look_turn,if_neg hn]
 unfold updM
 rfl
theorem Nj{n:Nat}{l:Ba}(h:DirOk n l)(a:AM)(hn:a.to.length≠0)(hf:a.frm= []):updM (AD l) a.to (some a.file)=AD (turnD l a):=by
 rw[←Pe h a hn]
 funext t
 unfold updM
 by_cases ht:t=a.to
 ·rw[if_pos ht,if_pos ht]
 ·rw[if_neg ht,if_neg ht]
  by_cases h2:t=a.frm
  ·rw[if_pos h2,h2,hf,h.noEmpty]
  ·rw[if_neg h2]
theorem Nk{l:Ba}(a:AM)(hn:a.to= []):updM (AD l) a.frm none=AD (turnD l a):=by
 funext t
 rw[look_turn,if_pos (by rw[hn];rfl)]
 unfold updM
 rfl
theorem J2{w:World}{F:Nat→Nat}{v:Value}{a:AM}(h:ActAt w F v a){m n:Nat}{l:Ba}(hM:MapF St (pF F) Nm w m (AD l))(hl:DirOk n l)(ha:ActOk n a):
  ∃f caps,v = .func (.func f) #[] caps∧Plain Tryz.prog f∧Calls Tryz.prog f (#[.map (some m)]++caps) w fun e w' =>e = .returned (.tuple #[])∧MapF St (pF F) Nm w' m (AD (turnD l a))∧w.grownBy w' (some m):=by
 rcases h with ⟨bf,bn,e,h1,h2,h3,h4⟩ | ⟨hm,bs,bf,bn,e,h1,h2,h3,h4⟩ | ⟨bn,e,h1,h2⟩
 ·refine⟨_,_,e,fun _ _=>by kernel_rfl,?_⟩
  have:=Q8 (ev:=pF F) w m _ hM bf bn (F a.file) a.file a.to h1 h2 rfl (B0 (ha.may h4)).2
  rw[Nj hl a h4 h3]at this
  exact this
 ·exact(show False from hm).elim
 ·refine⟨_,_,e,fun _ _=>by kernel_rfl,?_⟩
  have:=Q9 (ev:=pF F) w m _ hM bn a.frm h1 ha.frm
  rw[Nk a h2]at this
  exact this
open Go.RowKit
set_option linter.unusedVariables false
theorem getD_left{α:Type}{l r:List α}{i:Nat}{x:α}(h:i<l.length):(l++r).getD i x=l.getD i x:=by rw[List.getD_eq_getElem?_getD,List.getElem?_append_left h,←List.getD_eq_getElem?_getD]
theorem DW{α:Type}{l:List α}{a x:α}:(l++ [a]).getD l.length x=a:=by rw[List.getD_eq_getElem?_getD,List.getElem?_append_right (Nat.le_refl _),Nat.sub_self];rfl
section
variable {base : Nat} {w w' : World} {H : Dk} {D : An}
theorem BC{w:World}{i j x y:Nat}(h:Cj w i=some x)(k:Cj w j=some y)(hx:x≠y):i≠j:=fun e=>by rw[e,k]at h;exact hx (Option.some.inj h).symm
theorem DkS.turned(h:DkS base w H D){a:AM}(ha:ActOk D.files.length a){v:Value}(hat:ActAt w H.F v a){vs:List Value}(hvs:JT base w H.va H.F D.acts vs){va' :Value} 
    (hc:Chg (fun i=>i=H.mn∨i=H.g∨H.va.ownBlock=some i) w w') (hm:MapF St (pF H.F) Nm w' H.mn (AD (turnD D.now a)))
    (hb:w'.heap[H.g]? =some (.cells (FO D.quota H.mn H.ml va' D.refused D.arm D.down).toArray 52 (0,0))) (hr:w'.ownsRow base 107 1 va' (vs++ [v]).length (vs++ [v])):
    DkS base w' { H with va:=va' } (turnedD D a):=by
  have hT:∀i,i<w.heap.size→(i=H.mn∨i=H.g∨H.va.ownBlock=some i)→TyB w i:=fun i _ e=>by
    rcases e with e | e | e
    · exact e▸CO (.inl h.now.tag)
    · exact e▸CO (.inr (.inl h.tg))
    · exact CO (.inr (.inr (.inr (.inr (h.tA e)))))
  have ne0:∀ {i x:Nat},Cj w i=some x→x≠0→x≠52+1→x≠107+1→¬(i=H.mn∨i=H.g∨H.va.ownBlock=some i):=fun e h0 h1 h2 q=>by
    rcases q with q | q | q
    · rw[q,h.now.tag]at e;exact h0 (Option.some.inj e).symm
    · rw[q,h.tg]at e;exact h1 (Option.some.inj e).symm
    · rw[h.tA q]at e;exact h2 (Option.some.inj e).symm
  refine⟨hb,hm,h.kept.chg hc fun q=> ?_,h.ne,⟨vs++ [v],hr,?_,fun i hi=> ?_⟩,h.files.chg hc (fun k hk=>⟨ne0 (h.tF hk) (by decide) (by decide) (by decide),fun i hi=>ne0 (h.tV hk hi) (by decide) (by decide) (by decide)⟩),h.ok.turned ha,h.lo⟩
  · rcases q with q | q | q
    · exact h.ne q.symm
    · exact BC h.kept.tag h.tg (by decide) q
    · exact BC h.kept.tag (h.tA q) (by decide) rfl
  · show(vs++ [v]).length=(D.acts++ [a]).length
    rw[List.length_append,List.length_append,hvs.len];rfl
  · show ActAt w' H.F ((vs++ [v]).getD i undef) ((D.acts++ [a]).getD i _)
    rw[show(turnedD D a).acts.length=D.acts.length+1 by show(D.acts++ [a]).length=_;simp]at hi
    have hl:=hvs.len
    by_cases e:i<D.acts.length
    · rw[getD_left (by omega:i<vs.length),getD_left e]
      exact(hvs.at_ i e).chg hc hT rfl
    · obtain rfl:i=D.acts.length:=by omega
      rw[DW,←hl,DW]
      exact hat.chg hc hT rfl
theorem DkS.synced(h:DkS base w H D){ml' :Nat}(hc:Chg (fun i=>i=H.g) w w')(hn:w.heap.size≤ml')(hm:MapF St (pF H.F) Nm w' ml' (AD D.now))(h0:base≤w.heap.size) 
    (hb:w'.heap[H.g]? =some (.cells (FO D.quota H.mn ml' (.slice none 0 0) D.refused D.arm D.down).toArray 52 (0,0))):
    DkS base w' { H with ml:=ml',va:= .slice none 0 0 } { D with kept:=D.now,acts:= [] } :=by
  have ne0:∀ {i x:Nat},Cj w i=some x→x≠52+1→i≠H.g:=fun e hx=>BC e h.tg hx
  have hlt:=h.now.lt
  exact⟨hb,h.now.chg hc (ne0 h.now.tag (by decide)),hm,fun(q:H.mn=ml')=>by omega,⟨[],World.ownsRow_nil _ _ _ 1,rfl,fun i hi=>absurd hi (Nat.not_lt_zero _)⟩,
    h.files.chg hc (fun k hk=>⟨ne0 (h.tF hk) (by decide),fun i hi=>ne0 (h.tV hk hi) (by decide)⟩),⟨h.ok.now,h.ok.now,fun a ha=>(by cases ha),h.ok.syn⟩,⟨h.lo.1,h.lo.2.1,Nat.le_trans h0 hn⟩⟩
structure DkT (base : Nat) (w : World) (H : Dk) (D : An) (w' : World) (H' : Dk) (D' : An) : Prop where
  st:DkS base w' H' D'
  g:H'.g=H.g
  chg:Chg (A1 H D.files.length) w w'
  foot:∀i,A1 H' D'.files.length i→A1 H D.files.length i∨w.heap.size≤i
theorem DkT.refl(h:DkS base w H D):DkT base w H D w H D:=⟨h,rfl,Chg.refl _ _,fun _ q=> .inl q⟩
theorem DkT.trans{a:World}{H1 H2:Dk}{D1 D2:An}(h:DkT base w H D w' H1 D1)(k:DkT base w' H1 D1 a H2 D2):DkT base w H D a H2 D2:=
  ⟨k.st,k.g.trans h.g,h.chg.trans k.chg h.foot,fun i q=>(k.foot i q).elim (h.foot i) fun r=> .inr (Nat.le_trans h.chg.size r)⟩
theorem DkT.keep{a:World}{H1:Dk}{D1:An}(h:DkT base w H D w' H1 D1)(k:Ext w' a):DkT base w H D a H1 D1:=⟨h.st.keep k,h.g,h.chg.keep k,h.foot⟩
theorem RB.chg{B:Nat→Prop}{v:Value}{l:List UInt8}(h:RB w v l)(hc:Chg B w w')(hB:l= []∨∀i,v.ownBlock=some i→¬B i):RB w' v l:=by
  obtain⟨h1,ao,cap,rfl,h2,h3,h4,h5⟩:=h
  refine⟨h1,ao,cap,rfl,h2,h3,h4,fun a ha j u hu=> ?_⟩
  have hl:=h5 a ha j u hu
  have hlt:=World.block_lt_of_cell? w _ hl
  rcases hB with rfl | hB
  · simp[Lib.byteCells]at hu
  · have hn:¬B (a.add j).block:=hB _ (by rw[ha];obtain⟨a1,a2,a3⟩:=a;simp only[Value.ownBlock,Addr.add];split <;> rfl)
    have hb:=hc.blk _ hlt hn
    unfold World.cell? at hl ⊢
    rw[hb]
    exact hl
theorem DkS.offT(h:DkS base w H D){b:Nat}{cs:Array Value}{t:TypeId}{fr:Nat × Nat}(hb:w.heap[b]? =some (.cells cs t fr))(h1:t≠52)(h2:t≠105)(h3:t≠5)(h4:t≠107):¬A1 H D.files.length b:=fun q=>TyB.off hb h1 h2 h3 h4 (h.foot q).1
theorem DkT.box{H1:Dk}{D1:An}(h:DkT base w H D w' H1 D1)(h0:DkS base w H D){b:Nat}{cs:Array Value}{t:TypeId}{fr:Nat × Nat}(hb:w.heap[b]? =some (.cells cs t fr))(h1:t≠52)(h2:t≠105)(h3:t≠5)(h4:t≠107):w'.heap[b]? =some (.cells cs t fr):=
  (h.chg.blk b (bl hb) (h0.offT hb h1 h2 h3 h4)).trans hb
theorem DkS.setFileT(h:DkS base w H D){k:Nat}(hk:k<D.files.length){v:Value}{x:List UInt8 × Nat}(hx:x.2≤x.1.length)(hc:Chg (fun i=>i=H.F k∨(H.V k).ownBlock=some i) w w')(hf:FileAt base w' (H.F k) v x)(hv:∀i,v.ownBlock=some i→(H.V k).ownBlock=some i∨w.heap.size≤i):
    DkT base w H D w' { H with V:=Bz H.V k v } { D with files:=D.files.set k x } :=
  ⟨h.setFile hk hx hc hf hv,rfl,hc.mono fun i _ e=> .inr (.inr (.inr (.inr ⟨k,hk,e⟩))),fun i hi=>by
    rcases hi with e | e | e | e | ⟨j,hj,e⟩
    · exact .inl (.inl e)
    · exact .inl (.inr (.inl e))
    · exact .inl (.inr (.inr (.inl e)))
    · exact .inl (.inr (.inr (.inr (.inl e))))
    · have hj:j<D.files.length:=by have:j<(D.files.set k x).length:=hj;rwa [List.length_set]at this
      rcases e with e | e
      · exact .inl (.inr (.inr (.inr (.inr ⟨j,hj, .inl e⟩))))
      · by_cases ej:j=k
        · have e:(Bz H.V k v j).ownBlock=some i:=e
          rw[ej,BW]at e
          exact(hv i e).imp (fun q=> .inr (.inr (.inr (.inr ⟨k,hk, .inr q⟩)))) id
        · have e:(Bz H.V k v j).ownBlock=some i:=e
          rw[Fc _ _ ej]at e
          exact .inl (.inr (.inr (.inr (.inr ⟨j,hj, .inr e⟩))))⟩
theorem DkS.newFileT(h:DkS base w H D)(hE:Ext w w'){f:Nat}(hf:w.heap.size≤f)(hb:w'.heap[f]? =some (.cells ([.slice none 0 0,NI 0]).toArray 105 (0,0)))(h0:base≤w.heap.size):
    DkT base w H D w' { H with F:=Bz H.F D.files.length f,V:=Bz H.V D.files.length (.slice none 0 0) } { D with files:=D.files++ [([],0)] } :=
  ⟨h.newFile hE hf hb h0,rfl,Chg.ofExt hE,fun i hi=>by
    rcases hi with e | e | e | e | ⟨j,hj,e⟩
    · exact .inl (.inl e)
    · exact .inl (.inr (.inl e))
    · exact .inl (.inr (.inr (.inl e)))
    · exact .inl (.inr (.inr (.inr (.inl e))))
    · have hj:j<D.files.length+1:=by have:j<(D.files++ [(([]:List UInt8),0)]).length:=hj;rwa [List.length_append]at this
      by_cases ej:j=D.files.length
      · rcases e with e | e
        · have e:i=Bz H.F D.files.length f j:=e
          rw[ej,BW]at e
          exact .inr (e▸hf)
        · have e:(Bz H.V D.files.length (.slice none 0 0) j).ownBlock=some i:=e
          rw[ej,BW]at e
          cases e
      · have hj' :j<D.files.length:=by omega
        rcases e with e | e
        · have e:i=Bz H.F D.files.length f j:=e
          rw[BJ _ _ hj']at e
          exact .inl (.inr (.inr (.inr (.inr ⟨j,hj', .inl e⟩))))
        · have e:(Bz H.V D.files.length (.slice none 0 0) j).ownBlock=some i:=e
          rw[BJ _ _ hj']at e
          exact .inl (.inr (.inr (.inr (.inr ⟨j,hj', .inr e⟩))))⟩
theorem DkS.setBlkT(h:DkS base w H D)(hg:w.grownBy w' (some H.g)){q rf ar:Nat}{dn:Bool}(hb:w'.heap[H.g]? =some (.cells (FO q H.mn H.ml H.va rf ar dn).toArray 52 (0,0))):DkT base w H D w' H { D with quota:=q,refused:=rf,arm:=ar,down:=dn } :=
  ⟨h.setBlk hg hb,rfl,Chg.ofGrown hg fun i e=> .inl (.inl (Option.some.inj e).symm),fun i hi=> .inl hi⟩
theorem DkS.syncedT(h:DkS base w H D){ml' :Nat}(hc:Chg (fun i=>i=H.g) w w')(hn:w.heap.size≤ml')(hm:MapF St (pF H.F) Nm w' ml' (AD D.now))(h0:base≤w.heap.size) 
    (hb:w'.heap[H.g]? =some (.cells (FO D.quota H.mn ml' (.slice none 0 0) D.refused D.arm D.down).toArray 52 (0,0))):
    DkT base w H D w' { H with ml:=ml',va:= .slice none 0 0 } { D with kept:=D.now,acts:= [] } :=
  ⟨h.synced hc hn hm h0 hb,rfl,hc.mono fun i _ e=> .inl e,fun i hi=>by
    rcases hi with e | e | e | e | e
    · exact .inl (.inl e)
    · exact .inl (.inr (.inl e))
    · exact .inr ((show i=ml' from e)▸hn)
    · cases(show(none:Option Nat)=some i from e)
    · exact .inl (.inr (.inr (.inr (.inr e))))⟩
end
open Go.RowKit
set_option maxRecDepth 100000
set_option linter.unusedVariables false
set_option linter.unusedSimpArgs false
theorem Yk.cloT{P:Program}{K:Value→World→Prop}{ρ:Ai}{w:World}{d:Option Tmp}{ty:TypeId}{pos:String}{af:Array Edge}{gd:Option (Nat × Bool)}{f:FuncId}{c x:Operand}{v y:Value}{caps:Array Value}{R:World→Prop}{at_:Array TypeId}(hp:Plain P f)(hc:Ab ρ c=v)(hve:v = .func (.func f) #[] caps)(hx:Ab ρ x=y) 
  (h:Calls P f (#[y]++caps) w fun e w' =>e = .returned (.tuple #[])∧R w') (hk:∀w',R w' →K (.tuple #[]) w'):Yk P K ((execOp (Ab ρ) ⟨d, .call ⟨.value c,#[x],at_⟩,ty,pos,af,gd⟩).run P w):=
 Yk.clo hp (hc.trans hve) _ (by simp[hx]) (h.mono fun e w' q=>⟨_,q.1,hk w' q.2⟩)
theorem SL{base:Nat}{w w' :World}{H:Dk}{D:An}(h:DkS base w H D)(hg:w.grownBy w' (some H.mn)){vs:List Value}(hr:OG base 107 1 DF w H.va vs):OG base 107 1 DF w' H.va vs:=
 hr.kept hg fun q=>BC h.now.tag (h.tA q) (by decide) rfl
theorem Lb{base:Nat}{w w' :World}{H:Dk}{D:An}(h:DkS base w H D){a:AM}(ha:ActOk D.files.length a){v:Value}(hat:ActAt w H.F v a){vs:List Value}(hvs:JT base w H.va H.F D.acts vs){va' :Value} 
  (hc:Chg (fun i=>i=H.mn∨i=H.g∨H.va.ownBlock=some i) w w') (hm:MapF St (pF H.F) Nm w' H.mn (AD (turnD D.now a)))
  (hb:w'.heap[H.g]? =some (.cells (FO D.quota H.mn H.ml va' D.refused D.arm D.down).toArray 52 (0,0))) (hr:w'.ownsRow base 107 1 va' (vs++ [v]).length (vs++ [v]))
  (hv:∀i,va'.ownBlock=some i→H.va.ownBlock=some i∨w.heap.size≤i):DkT base w H D w' { H with va:=va' } (turnedD D a):=
 ⟨h.turned ha hat hvs hc hm hb hr,rfl,hc.mono fun i _ e=>e.elim (fun e=> .inr (.inl e)) fun e=>e.elim .inl fun e=> .inr (.inr (.inr (.inl e))),fun i hi=>by
  rcases hi with e | e | e | e | e
  ·exact .inl (.inl e)
  ·exact .inl (.inr (.inl e))
  ·exact .inl (.inr (.inr (.inl e)))
  ·exact(hv i e).imp (fun e=> .inr (.inr (.inr (.inl e)))) id
  ·exact .inl (.inr (.inr (.inr (.inr e))))⟩
theorem HJ:A3 Tryz.prog 52 3 3:=fun b o w=>by simp[go_sem]
theorem G9:Tryz.prog.underlying 50=some (.slice 107):=by kernel_rfl
theorem Pf(f:Fn)(a:Array Value)(c:Array Value)(w:World):(Instr.buildSlice 50 1 #[(0, .func f a c)]).run Tryz.prog w = .ok (.slice (some ⟨w.heap.size,0,none⟩) 1 1) (w.alloc (.cells #[.func f a c] 107)):=by kernel_rfl
theorem dw5_ig107:∃z,(Tryz.prog.info? 107).map (fun i=>(i.zero,i.size,i.bytes))=some (some z,1,8)∧z.cells.size=1:=Eg (by kernel_rfl)
theorem Nl:(Tryz.prog.info? 50).map (·.size)=some 1:=by kernel_rfl
set_option maxHeartbeats 1600000
theorem LB(w0 w:World)(b:Ext w0 w)(H:Dk)(D:An)(hS:DkS w0.heap.size w H D)(v:Value)(a:AM)(ha:ActOk D.files.length a)(hat:ActAt w H.F v a)(hn:D.acts.length<1099511627776):
  Calls Tryz.prog 56 #[PQ H.g 0,v] w fun e w' =>∃va',e = .returned (.tuple #[])∧DkT w0.heap.size w H D w' { H with va:=va' } (turnedD D a):=by
 have hb:=hS.blk
 have hgl:=(bl hb)
 have hsz0:=b.size
 have hmnl:=hS.lo.2.1
 have hgl0:=hS.lo.1
 have j:=hS
 obtain⟨vs,hvs⟩:=hS.acts
 have hvl:=hvs.len
 have hrow:OG w0.heap.size 107 1 DF w H.va vs:=⟨fun _ _=>rfl,by rw[enV_flat];exact hvs.row⟩
 have hvg:H.va.ownBlock≠some H.g:=fun q=>BC hS.tg (hS.tA q) (by decide) rfl
 obtain⟨f,caps,hve,hpl,hcl⟩:=J2 hat hS.now hS.ok.now ha
 refine gG (args:= [PQ H.g 0,v]) Tryz.func56 rfl 20 rfl rfl ?_
 have hE:=Ext.refl w
 refine gS (Yk.nilCheck rfl (gS (Yk.fieldAt Mf rfl (gS (Yk.cell1 JW rfl rfl (cellAt hb rfl) (gS (Yk.cloT hpl rfl hve rfl hcl fun c hR3=> ?_)))))))
 have hb:c.heap[H.g]? =some (.cells (FO (D.quota) (H.mn) (H.ml) (H.va) (D.refused) (D.arm) (D.down)).toArray 52 (0,0)):=QM hS.now hR3.2 hb
 have hrow:OG w0.heap.size 107 1 (DF) c H.va vs:=SL hS hR3.2 hrow
 have b:=Aa b hR3.2 (Nat.le_trans (Nat.le_refl _) (by omega))
 clear hE
 have hC:Chg (fun i=>i=H.g∨H.va.ownBlock=some i) c c:=Chg.refl _ _
 refine gS (Yk.nilCheck rfl (gS (Yk.fieldAt HJ rfl (gS (Yk.cell1 G9 rfl rfl (cellAt hb rfl) (gS (Yk.lit1S (a:=(v)) (enc:=DF) (vr v rfl) rfl (fun w=>by rw[hve];exact Pf _ _ _ w) fun x o p l=> ?_)))))))
 have hC:Chg (fun i=>i=H.g∨H.va.ownBlock=some i) c o:=(hC.keep l)
 have hrow:=hrow.keep l
 have b:=b.trans l
 refine gS (Yk.appendRG _ _ w0.heap.size _ 8 G9 dw5_ig107.choose_spec.1 dw5_ig107.choose_spec.2 G9 (vs) ([(v)]) (OG.of hrow (vr H.va rfl)) (RG.of p (vr x rfl)) (fun y hy u hu=>by rw[List.mem_singleton.1 hu,List.mem_singleton.1 hy,hve];rfl) (by simp;omega) (by simp;omega) b.size fun m r k h=> ?_)
 have h:Grew o r H.va m:=h
 have hb:=eb l hb
 have z:OB m H.g:=Ax h hvg (bl hb)
 have hb:=Am hb h hvg
 have b:=Ag b h hrow.2 (Nat.le_refl _)
 have hvf:=fun i e=>(h.fresh i e).imp id (fun q=>Nat.le_trans (Nat.le_trans hR3.2.size hC.size) q)
 have hC:Chg (fun i=>i=H.g∨H.va.ownBlock=some i) c r:=Chg.grew hC h (fun i e=> .inl (.inr e))
 clear p
 clear hrow
 refine gS (Yk.nilCheck rfl (gS (Yk.fieldAt HJ rfl (gS (Yk.storeC (i:=3) (v:=m) rfl rfl hb (Nat.le_of_ble_eq_true rfl) Nl (CN k.2).1 (CN k.2).2 fun n s t aa=> ?_)))))
 clear b
 have hC:Chg (fun i=>i=H.g∨H.va.ownBlock=some i) c n:=Chg.set hC t (.inl (.inl rfl))
 have k:=OG.kept k t z
 clear hb
 have hb:=s;clear s
 have ab:=bl hb
 refine rt0 rfl ?_
 have hC0:Chg (fun i=>i=H.mn∨i=H.g∨H.va.ownBlock=some i) w n:=((Chg.ofGrown hR3.2 (fun i e=> .inl (.inl (Option.some.inj e).symm)):Chg (fun i=>i=H.mn∨i=H.g∨H.va.ownBlock=some i) w c)).trans hC (fun i e=> .inl (.inr e))
 have hmf:=hR3.1.chg hC (fun q=>q.elim (fun q=>BC j.now.tag j.tg (by decide) q) (fun q=>BC j.now.tag (j.tA q) (by decide) rfl))
 have hown:n.ownsRow w0.heap.size 107 1 m (vs++ [v]).length (vs++ [v]):=by have:=k.2;rw[enV_flat]at this;exact this
 exact⟨_,rfl,Lb j ha hat hvs hC0 hmf hb hown hvf⟩
open Go.Shelf Go.RowKit
def Ml:Go.Shelf.Ren:=⟨fun | 5=>65 | 7=>89 | n=>n,fun | 23=>49 | 25=>9 | 3=>81 | 4=>4 | 20=>20 | n=>n,fun | n=>n⟩
theorem R6:Go.Proofs.SlLaysW.n5 Tryz.prog Ml:= {
  mixed:=by kernel_rfl
  f5:=⟨Tryz.f65.name,by decide,Tryz.func65.trans (congrArg some (by kernel_rfl))⟩
  f7:=Tryz.func89.trans (congrArg some (by kernel_rfl))
  t4:=Tryz.underlying4
  a4:=Tryz.isAgg4
  z4:=Tryz.sizeOf4
  v4:=Tryz.zeroValue4
  t20:=Tryz.underlying20
  a20:=Tryz.isAgg20
  z20:=Tryz.sizeOf20
  v20:=Tryz.zeroValue20
  t23:=Tryz.underlying49
  a23:=Tryz.isAgg49
  z23:=Tryz.sizeOf49
  v23:=Tryz.zeroValue49 }
def IP:Go.Shelf.Ren:=⟨fun | 7=>33 | 10=>71 | n=>n,fun | 23=>49 | 26=>9 | 3=>81 | 28=>79 | 0=>0 | 27=>78 | 33=>119 | 4=>4 | n=>n,fun | n=>n⟩
theorem QN:Go.Proofs.SlLaysZ.n7 Tryz.prog IP:= {
  mixed:=by kernel_rfl
  f7:=⟨Tryz.f33.name,by decide,Tryz.func33.trans (congrArg some (by kernel_rfl))⟩
  f10:=⟨Tryz.f71.name,by decide,Tryz.func71.trans (congrArg some (by kernel_rfl))⟩
  t0:=Tryz.underlying0
  a0:=Tryz.isAgg0
  z0:=Tryz.sizeOf0
  v0:=Tryz.zeroValue0
  t4:=Tryz.underlying4
  a4:=Tryz.isAgg4
  z4:=Tryz.sizeOf4
  v4:=Tryz.zeroValue4
  t23:=Tryz.underlying49
  a23:=Tryz.isAgg49
  z23:=Tryz.sizeOf49
  v23:=Tryz.zeroValue49
  t26:=Tryz.underlying9
  a26:=Tryz.isAgg9
  z26:=Tryz.sizeOf9
  v26:=Tryz.zeroValue9
  t27:=Tryz.underlying78
  a27:=Tryz.isAgg78
  z27:=Tryz.sizeOf78
  v27:=Tryz.zeroValue78
  t28:=Tryz.underlying79
  a28:=Tryz.isAgg79
  z28:=Tryz.sizeOf79
  v28:=Tryz.zeroValue79
  t33:=Tryz.underlying119
  a33:=Tryz.isAgg119
  z33:=Tryz.sizeOf119
  v33:=Tryz.zeroValue119 }
def GT:Go.Shelf.Ren:=⟨fun | 6=>32 | 8=>69 | 9=>70 | 11=>90 | 13=>92 | 12=>91 | 23=>110 | 24=>111 | 14=>101 | 15=>102 | 16=>103 | 17=>104 | 18=>105 | 19=>106 | 20=>107 | 21=>108 | 22=>109 | 25=>117 | 26=>118 | 27=>119 | 28=>120 | 29=>121 | 30=>122 | 31=>126 | n=>n,fun | 26=>9 | 28=>79 | 24=>39 | 0=>0 | 3=>3 | 37=>92 | 48=>89 | 50=>124 | 4=>4 | 40=>153 | 39=>152 | 45=>157 | 5=>5 | 9=>9 | 51=>165 | 55=>169 | 57=>173 | 58=>174 | 33=>119 | n=>n,fun | n=>n⟩
theorem Ra:Go.Proofs.SlLaysZ.n6 Tryz.prog GT:= {
  mixed:=by kernel_rfl
  f6:=⟨Tryz.f32.name,by decide,Tryz.func32.trans (congrArg some (by kernel_rfl))⟩
  f8:=⟨Tryz.f69.name,by decide,Tryz.func69.trans (congrArg some (by kernel_rfl))⟩
  f11:=⟨Tryz.f90.name,by decide,Tryz.func90.trans (congrArg some (by kernel_rfl))⟩
  t0:=Tryz.underlying0
  a0:=Tryz.isAgg0
  z0:=Tryz.sizeOf0
  v0:=Tryz.zeroValue0
  t24:=Tryz.underlying39
  a24:=Tryz.isAgg39
  z24:=Tryz.sizeOf39
  v24:=Tryz.zeroValue39
  t26:=Tryz.underlying9
  a26:=Tryz.isAgg9
  z26:=Tryz.sizeOf9
  v26:=Tryz.zeroValue9
  t28:=Tryz.underlying79
  a28:=Tryz.isAgg79
  z28:=Tryz.sizeOf79
  v28:=Tryz.zeroValue79
  i26:=by kernel_rfl }
def Nn:Go.Shelf.Ren:=⟨fun | 6=>70 | 8=>92 | 9=>91 | 19=>110 | 20=>111 | 21=>101 | 22=>102 | 23=>103 | 24=>104 | 25=>105 | 26=>106 | 27=>107 | 28=>108 | 29=>109 | 36=>117 | 31=>118 | 32=>119 | 37=>120 | 38=>121 | 39=>122 | 41=>126 | n=>n,fun | 27=>39 | 29=>9 | 3=>3 | 32=>92 | 26=>39 | 0=>0 | 44=>89 | 46=>124 | 4=>4 | 36=>153 | 35=>152 | 41=>157 | 5=>5 | 9=>9 | 53=>165 | 57=>169 | 63=>173 | 64=>174 | n=>n,fun | n=>n⟩
theorem QO:Go.Proofs.SlLaysM.n6 Tryz.prog Nn:= {
  mixed:=by kernel_rfl
  f6:=⟨Tryz.f70.name,by decide,Tryz.func70.trans (congrArg some (by kernel_rfl))⟩
  f8:=Tryz.func92.trans (congrArg some (by kernel_rfl))
  f9:=⟨Tryz.f91.name,by decide,Tryz.func91.trans (congrArg some (by kernel_rfl))⟩
  f19:=Tryz.func110.trans (congrArg some (by kernel_rfl))
  f20:=Tryz.func111.trans (congrArg some (by kernel_rfl))
  f21:=⟨Tryz.f101.name,by decide,Tryz.func101.trans (congrArg some (by kernel_rfl))⟩
  f22:=⟨Tryz.f102.name,by decide,Tryz.func102.trans (congrArg some (by kernel_rfl))⟩
  f23:=⟨Tryz.f103.name,by decide,Tryz.func103.trans (congrArg some (by kernel_rfl))⟩
  f24:=⟨Tryz.f104.name,by decide,Tryz.func104.trans (congrArg some (by kernel_rfl))⟩
  f25:=⟨Tryz.f105.name,by decide,Tryz.func105.trans (congrArg some (by kernel_rfl))⟩
  f26:=⟨Tryz.f106.name,by decide,Tryz.func106.trans (congrArg some (by kernel_rfl))⟩
  f27:=⟨Tryz.f107.name,by decide,Tryz.func107.trans (congrArg some (by kernel_rfl))⟩
  f28:=⟨Tryz.f108.name,by decide,Tryz.func108.trans (congrArg some (by kernel_rfl))⟩
  f29:=⟨Tryz.f109.name,by decide,Tryz.func109.trans (congrArg some (by kernel_rfl))⟩
  f31:=Tryz.func118.trans (congrArg some (by kernel_rfl))
  f32:=Tryz.func119.trans (congrArg some (by kernel_rfl))
  f36:=⟨Tryz.f117.name,by decide,Tryz.func117.trans (congrArg some (by kernel_rfl))⟩
  f37:=⟨Tryz.f120.name,by decide,Tryz.func120.trans (congrArg some (by kernel_rfl))⟩
  f38:=⟨Tryz.f121.name,by decide,Tryz.func121.trans (congrArg some (by kernel_rfl))⟩
  f39:=⟨Tryz.f122.name,by decide,Tryz.func122.trans (congrArg some (by kernel_rfl))⟩
  f41:=⟨Tryz.f126.name,by decide,Tryz.func126.trans (congrArg some (by kernel_rfl))⟩
  t0:=Tryz.underlying0
  a0:=Tryz.isAgg0
  z0:=Tryz.sizeOf0
  v0:=Tryz.zeroValue0
  t3:=Tryz.underlying3
  a3:=Tryz.isAgg3
  z3:=Tryz.sizeOf3
  v3:=Tryz.zeroValue3
  t4:=Tryz.underlying4
  a4:=Tryz.isAgg4
  z4:=Tryz.sizeOf4
  v4:=Tryz.zeroValue4
  t5:=Tryz.underlying5
  a5:=Tryz.isAgg5
  z5:=Tryz.sizeOf5
  v5:=Tryz.zeroValue5
  t9:=Tryz.underlying9
  a9:=Tryz.isAgg9
  z9:=Tryz.sizeOf9
  v9:=Tryz.zeroValue9
  t26:=Tryz.underlying39
  a26:=Tryz.isAgg39
  z26:=Tryz.sizeOf39
  v26:=Tryz.zeroValue39
  t27:=Tryz.underlying39
  a27:=Tryz.isAgg39
  z27:=Tryz.sizeOf39
  v27:=Tryz.zeroValue39
  t29:=Tryz.underlying9
  a29:=Tryz.isAgg9
  z29:=Tryz.sizeOf9
  v29:=Tryz.zeroValue9
  t32:=Tryz.underlying92
  a32:=Tryz.isAgg92
  z32:=Tryz.sizeOf92
  v32:=Tryz.zeroValue92
  t35:=Tryz.underlying152
  a35:=Tryz.isAgg152
  z35:=Tryz.sizeOf152
  v35:=Tryz.zeroValue152
  t36:=Tryz.underlying153
  a36:=Tryz.isAgg153
  z36:=Tryz.sizeOf153
  v36:=Tryz.zeroValue153
  t41:=Tryz.underlying157
  a41:=Tryz.isAgg157
  z41:=Tryz.sizeOf157
  v41:=Tryz.zeroValue157
  t44:=Tryz.underlying89
  a44:=Tryz.isAgg89
  z44:=Tryz.sizeOf89
  v44:=Tryz.zeroValue89
  t46:=Tryz.underlying124
  a46:=Tryz.isAgg124
  z46:=Tryz.sizeOf124
  v46:=Tryz.zeroValue124
  t53:=Tryz.underlying165
  a53:=Tryz.isAgg165
  z53:=Tryz.sizeOf165
  v53:=Tryz.zeroValue165
  t57:=Tryz.underlying169
  a57:=Tryz.isAgg169
  z57:=Tryz.sizeOf169
  v57:=Tryz.zeroValue169
  t63:=Tryz.underlying173
  a63:=Tryz.isAgg173
  z63:=Tryz.sizeOf173
  v63:=Tryz.zeroValue173
  t64:=Tryz.underlying174
  a64:=Tryz.isAgg174
  z64:=Tryz.sizeOf174
  v64:=Tryz.zeroValue174 }
open Go.RowKit Go.Shelf
theorem Gb(w:World){F:Nat→Nat}{b:Nat}{G:List UInt8→Option Nat}(h:MapF St (pF F) Nm w b G):
    Calls Tryz.prog 65 #[.map (some b)] w fun e w' =>∃n,e = .returned (.map (some n))∧w.heap.size≤n∧MapF St (pF F) Nm w' n G∧Ext w w' :=by
  obtain⟨es,c,hb,hI⟩:=h
  have h0:=AnyW.maps_Clone R6 b es.toArray c w hb
  change Calls _ 65 _ _ _ at h0
  refine h0.mono fun e w' ⟨he,hw⟩=>⟨w.heap.size,he,Nat.le_refl _,⟨es,c,by rw[hw];exact heap_alloc_new _ _,hI⟩,by rw[hw];exact(Below.refl _ _).alloc (Nat.le_refl _) _⟩
theorem R7(m:Nat):AnyZ.SortsIn Tryz.prog GT Fence.wide m:=
  ⟨fun blk off cap ss W hH hblk hsz=>callsIn_wide.2 (AnyM.slices_Sort_string QO blk off cap ss W hH hblk hsz),fun p cap W=>callsIn_wide.2 (AnyM.slices_Sort_string_none QO p cap W)⟩
theorem J3(w:World)(b:Nat):Calls Tryz.prog 33 #[.map (some b)] w fun e w' =>e = .returned (.func (.func 71) #[] #[.pointer (some ⟨w.heap.size,0,none⟩)])∧w' =w.alloc (.cells #[.map (some b)] 49):=by
  have h:=AnyZ.keys_in QN Fence.wide 5 trivial rfl (some b) w
  exact callsIn_wide.1 h
theorem Mm{n:Nat}{l:Ba}(h:DirOk n l){ss:List (List UInt8)}(hp:ss.Perm (l.map Prod.fst)):ss.mergeSort (fun x y=>decide (x≤y))=l.map Prod.fst:=by
  have h1:=mergeSort_of_perm hp
  refine h1.trans (List.mergeSort_of_pairwise ?_)
  refine h.sort.map _ fun a b q=> ?_
  rw[bytesLess_eq,decide_eq_true_eq]at q
  simp only[decide_eq_true_eq]
  exact List.le_of_lt q
set_option maxHeartbeats 1000000 in
theorem HK(w c:World){F:Nat→Nat}{b n:Nat}{l:Ba}(hw:c=w.alloc (.cells #[.map (some b)] 49))(h:MapF St (pF F) Nm w b (AD l))(hl:DirOk n l)(hlen:l.length<1099511627776):
    Calls Tryz.prog 32 #[.func (.func 71) #[] #[.pointer (some ⟨w.heap.size,0,none⟩)]] c fun e w' =>∃v,e = .returned v∧OG c.heap.size 9 1 B1 w' v (l.map Prod.fst)∧Ext c w' :=by
  subst hw
  obtain⟨D0,hown,hperm,hsize⟩:=h.owns (P:=Tryz.prog) (k:=9) (by kernel_rfl) (fun a q=>Nat.le_trans q (by decide)) (keys:=l.map Prod.fst) (List.Pairwise.map _ (fun a b q e=>by rw[e,EW]at q;cases q) hl.sort) (fun s=>by
    constructor
    · intro q
      obtain⟨y,hy⟩:=Option.isSome_iff_exists.1 q
      exact List.mem_map.2 ⟨(s,y),ED hy,rfl⟩
    · intro q
      obtain⟨e,he,rfl⟩:=List.mem_map.1 q
      rw[Im hl.sort he];rfl) (by rw[List.length_map];simp only[maxLen];omega)
  rw[List.length_map]at hsize
  have hbl:=hown.lt
  have hseq:SeqGives Fence.wide 2 Tryz.prog 71 #[.pointer (some ⟨w.heap.size,0,none⟩)] encStr (fun ss=>ss.Perm (strKeys D0)) (Maps.size D0) (w.alloc (.cells #[.map (some b)] 49)):=
    AnyZ.keys_gives (ρ:=IP) { QN with } Fence.wide _ trivial rfl (by omega) w.heap.size b _ D0 _ (by simp) (by simp) (by
      obtain⟨es,clock,hb,Ft,hs,hD⟩:=hown
      exact⟨es,clock,(Below.heap_alloc _ _ b hbl).trans hb,Ft,hs,hD⟩)
  have hS:=AnyZ.sorted_in Ra Fence.wide 5 trivial trivial trivial trivial rfl (by omega) (R7 _) (enters_of Tryz.func70 (by kernel_rfl) rfl) 71 #[.pointer (some ⟨w.heap.size,0,none⟩)] trivial (enters_of Tryz.func71 (by kernel_rfl) rfl) _ _ (by rw[hsize];simp only[maxLen];omega) (by rw[hsize];omega) _ hseq
  refine(callsIn_wide.1 hS).mono fun e w' q=> ?_
  obtain⟨v,ss,he,hp,hrow,-,hB⟩:=q
  refine⟨v,he,⟨fun _ _=>rfl,?_⟩,hB⟩
  have hs:=Mm hl (hp.trans hperm)
  rw[hs]at hrow
  rw[O6]
  have hlen:ss.length=(l.map Prod.fst).length:=(hp.trans hperm).length_eq
  rw[hlen]at hrow
  exact hrow
open Go.RowKit
set_option maxRecDepth 100000
set_option linter.unusedVariables false
set_option linter.unusedSimpArgs false
theorem Rb(w0 w:World)(b:Ext w0 w)(H:Dk)(D:An)(hS:DkS w0.heap.size w H D)(g:Nat)(hg:H.g=g)(v:Value)(a:AM)(ha:ActOk D.files.length a)(hat:ActAt w H.F v a)(hn:D.acts.length<1099511627776):
  Calls Tryz.prog 56 #[PQ g 0,v] w fun e w' =>∃va',e = .returned (.tuple #[])∧DkT w0.heap.size w H D w' { H with va:=va' } (turnedD D a):=by
 subst hg
 exact LB w0 w b H D hS v a ha hat hn
theorem Pg{base:Nat}{w w' :World}{H H1:Dk}{D D1:An}(h:DkT base w H D w' H1 D1){v:Value}{b:List UInt8}(hr:RB w v b)(ho:b= []∨∀i,v.ownBlock=some i→¬A1 H D.files.length i):b= []∨∀i,v.ownBlock=some i→¬A1 H1 D1.files.length i:=by
 rcases ho with h0 | ho
 ·exact .inl h0
 ·by_cases hb:b= []
  ·exact .inl hb
  ·refine .inr fun i hi q=> ?_
   rcases h.foot i q with q | q
   ·exact ho i hi q
   ·have:=RB.lt hr (List.length_pos_iff.2 hb) hi
    omega
theorem DkT.ofExt{base:Nat}{w w' :World}{H:Dk}{D:An}(h:DkS base w H D)(hE:Ext w w'):DkT base w H D w' H D:=⟨h.keep hE,rfl,Chg.ofExt hE,fun _ q=> .inl q⟩
theorem LC{D:An}{s b:List UInt8}{k:Nat}(h:AD D.now s=some k):BN D s b = { D with files:=D.files.set k ((D.files.getD k ([],0)).1++b,(D.files.getD k ([],0)).2) } :=by unfold BN;rw[h];rfl
theorem Rc{D:An}{s b:List UInt8}(h:AD D.now s=none): { turnedD { D with files:=D.files++ [([],0)] } ⟨[],s,D.files.length⟩with files:=(turnedD { D with files:=D.files++ [([],0)] } ⟨[],s,D.files.length⟩).files.set D.files.length (((turnedD { D with files:=D.files++ [([],0)] } ⟨[],s,D.files.length⟩).files.getD D.files.length ([],0)).1++b,((turnedD { D with files:=D.files++ [([],0)] } ⟨[],s,D.files.length⟩).files.getD D.files.length ([],0)).2) } = BN D s b:=by
 unfold BN
 rw[h]
 have h1:(turnedD { D with files:=D.files++ [([],0)] } ⟨[],s,D.files.length⟩).files=D.files++ [([],0)]:=rfl
 rw[h1,DW]
 have h2:(D.files++ [(([]:List UInt8),0)]).set D.files.length ([]++b,0)=D.files++ [(b,0)]:=by
  rw[List.set_append_right _ _ (Nat.le_refl _),Nat.sub_self];rfl
 rw[h2]
 rfl
theorem BD{α:Type}{l:List α}{k:Nat}{d:α}(h:k<l.length):l.getD k d∈l:=by rw[List.getD_eq_getElem?_getD,List.getElem?_eq_getElem h];exact List.getElem_mem h
theorem J4:Plain Tryz.prog 56:=fun _ _=>by kernel_rfl
theorem Lc:A3 Tryz.prog 105 1 1:=fun b o w=>by simp[go_sem]
theorem Ph:(Tryz.prog.info? 3).map (·.size)=some 1:=by kernel_rfl
theorem Pi:Plain Tryz.prog 65:=fun _ _=>by kernel_rfl
theorem Mn:A3 Tryz.prog 52 2 2:=fun b o w=>by simp[go_sem]
theorem No:(Tryz.prog.info? 49).map (·.size)=some 1:=by kernel_rfl
theorem IQ:(Tryz.prog.info? 35).map (·.size)=some 1:=by kernel_rfl
theorem Pj{d:Option Tmp}{ty:TypeId}{pos:String}{af:Array Edge}{gd:Option (Nat × Bool)}(σ:Operand→Value)(w:World):(execOp σ ⟨d, .alloc 81,ty,pos,af,gd⟩).run Tryz.prog w = .ok (.value (PQ w.heap.size 0)) (w.alloc (.cells ([.pointer none]).toArray 81)):=by kernel_rfl
theorem Np:(Tryz.prog.info? 81).map (·.size)=some 1:=by kernel_rfl
set_option maxHeartbeats 1600000
theorem SM(w0 w:World)(a:Ext w0 w)(H:Dk)(D:An)(hS:DkS w0.heap.size w H D)(bd bs k:Nat)(s:List UInt8)(hbd:w.heap[bd]? =some (.cells ([PQ H.g 0]).toArray 24 (0,0)))(h3:w.heap[bs]? =some (.cells ([St s]).toArray 9 (0,0)))(hk:k<D.files.length)(hs:Bu s=true)(hn:D.acts.length<1099511627776):
  Calls Tryz.prog 85 #[PQ bd 0,PQ bs 0] w fun e w' =>∃H',e = .returned (.tuple #[])∧DkT w0.heap.size w H D w' H' (turnedD D ⟨s,[],k⟩):=by
 have hb:=hS.blk
 have hgl0:=hS.lo.1
 have hsz0:=a.size
 refine gG (args:= [PQ bd 0,PQ bs 0]) Tryz.func85 rfl 5 rfl rfl ?_
 have hE:=Ext.refl w
 refine gS (Yk.cell1 JU rfl rfl (cellAt hbd rfl) (gS (Yk.mkFunc (vs:= #[PQ bs 0]) (by simp only[List.map_toArray,List.map_cons,List.map_nil];exact congrArg List.toArray (HC (vr (PQ bs 0) rfl))) (gS (Yk.callA2 J4 rfl rfl ((LB w0 _ a H D (hS.keep hE) (.func (.func 86) #[] #[PQ bs 0]) ⟨s,[],k⟩ ⟨hk,fun q=>absurd rfl q,(B0 hs).2⟩ (.inr (.inr ⟨bs,rfl,h3,rfl⟩)) hn).mono ?_))))))
 rintro e w1 ⟨va2,rfl,hT⟩
 refine⟨_,rfl,?_⟩
 refine rt0 rfl ?_
 exact⟨_,rfl,hT⟩

theorem SN(w0 w:World)(b:Ext w0 w)(H:Dk)(D:An)(hS:DkS w0.heap.size w H D)(bf bd k:Nat)(hbf:w.heap[bf]? =some (.cells ([PQ (H.F k) 0]).toArray 81 (0,0)))(hbd:w.heap[bd]? =some (.cells ([PQ H.g 0]).toArray 24 (0,0)))(hkl:k<D.files.length):
  Calls Tryz.prog 84 #[PQ bf 0,PQ bd 0] w fun e w' =>∃H',e = .returned (.tuple #[])∧DkT w0.heap.size w H D w' H' ({ D with files:=D.files.set k ((AJ D k).1,(AJ D k).1.length),kept:=D.now,acts:= [] }):=by
 have hb:=hS.blk
 have hgl0:=hS.lo.1
 have hsz0:=b.size
 have j:=hS
 have hbd0:=hbd
 have ag:bf≠H.F k:=BC (BF hbf) (hS.tF hkl) (by decide)
 have ah:bd≠H.F k:=BC (BF hbd) (hS.tF hkl) (by decide)
 have ai:H.g≠H.F k:=BC hS.tg (hS.tF hkl) (by decide)
 have hfa:=j.files.at_ k hkl
 have hfb:=hfa.blk
 have hfl:=(bl hfb)
 have hfo:=hfa.row
 have hflo:=hfa.lo
 have hfv:(H.V k).ownBlock≠some (H.F k):=fun q=>BC (j.tF hkl) (j.tV hkl q) (by decide) rfl
 have hfr:RB w (H.V k) (D.files.getD k ([],0)).1:=RB.ofOwn hfo
 have hC:Chg (fun i=>i=(H.F k)) w w:=Chg.refl _ _
 refine gG (args:= [PQ bf 0,PQ bd 0]) Tryz.func84 rfl 21 rfl rfl ?_
 have hE:=Ext.refl w
 refine B5 [0,1,2,3,4,5,6,7,8] [8] [] fun y h=> ?_
 have hC:Chg (fun i=>i=(H.F k)) w y:=(hC.keep h)
 have hbf:=eb h hbf
 have hfb:=eb h hfb
 have hE:=hE.trans h
 refine ys (Yk.cell1 JX rfl rfl (cellAt hbf rfl) zz) (ys (Yk.cell1 JX rfl rfl (cellAt hbf rfl) zz) (ys (Yk.nilCheck rfl zz) (ys (Yk.fieldAt K9 rfl zz) (ys (Yk.cell1 S2 rfl rfl (cellAt hfb rfl) zz) (ys (Yk.lenRB S2 (RB.of (hfr.keep hE) rfl) zz) (ys (Yk.nilCheck rfl zz) (ys (Yk.fieldAt Lc rfl zz) (yC (Yk.storeC (i:=1) (v:=NI (((D.files.getD k ([],0)).1:List UInt8).length)) rfl rfl hfb (Nat.le_of_ble_eq_true rfl) Ph rfl rfl fun c r l aj=> ?_)))))))))
 have hb:=eb h hb
 have hb:=kb l hb (by omega)
 have hbf:=kb l hbf (by omega)
 have hbd:=eb h hbd
 have hbd:=kb l hbd (by omega)
 have hC:Chg (fun i=>i=(H.F k)) w c:=Chg.set hC l (.inl rfl)
 clear hE
 have b:=b.trans h
 have b:=Aa b l (Nat.le_trans (Nat.le_refl _) (by omega))
 clear hfb
 have hfb:=r;clear r
 have ak:=bl hfb
 have hT1:=j.setFileT (x:=((D.files.getD k ([],0)).1,(D.files.getD k ([],0)).1.length)) hkl (Nat.le_refl _) (hC.mono fun i _ e=> .inl e) ⟨hfb,CC hC hfo (fun i e q=>hfv (e.trans (congrArg some q))),hflo⟩ (fun i e=> .inl e)
 have hbd1:=DkT.box hT1 j hbd0 (by decide) (by decide) (by decide) (by decide)
 obtain⟨H1,s⟩:∃x,x=({ H with V:=Bz H.V k (H.V k) } :Dk):=⟨_,rfl⟩
 obtain⟨D1,hD1⟩:∃x,x=({ D with files:=D.files.set k ((D.files.getD k ([],0)).1,(D.files.getD k ([],0)).1.length) } :An):=⟨_,rfl⟩
 rw[←s,←hD1]at hT1
 have z:H1.g=H.g:=by rw[s]
 have f:=hT1.st
 have aa:=b
 have a:=f.blk
 have hgl1:=(bl a)
 rw[←z]at hbd1
 have hm1:=f.now
 have al:bd≠H1.g:=BC (BF hbd1) f.tg (by decide)
 have hgm:H1.g≠H1.mn:=BC f.tg f.now.tag (by decide)
 have hmn1:=f.now.lt
 have hC2:Chg (fun i=>i=H1.g) c c:=Chg.refl _ _
 have hg1l:=f.lo.1
 refine BV [0,1,2,3,4,5,6,7,8,9,10,11,12] [6,9,12] [] [0,1] fun w9 m=> ?_
 have hC2:Chg (fun i=>i=H1.g) c w9:=(hC2.keep m)
 have hm1:=hm1.keep m
 have a:=eb m a
 have hbd1:=eb m hbd1
 refine HE hbd1 ?_
 refine yf (fun _ ⟨hbd1,_⟩=>Yk.cell1 JU rfl rfl (cellAt hbd1 rfl) zz) (yf (fun _ ⟨hbd1,_⟩=>Yk.cell1 JU rfl rfl (cellAt hbd1 rfl) zz) (ys (Yk.cell1 JU rfl rfl (cellAt hbd1 rfl) zz) (ys (Yk.nilCheck rfl zz) (ys (Yk.fieldAt Mf rfl zz) (ys (Yk.cell1 JW rfl rfl (cellAt a rfl) zz) (yI (Yk.callA1 Pi rfl ((Gb _ hm1).mono ?_))))))))
 rintro e ac ⟨nm,rfl,hnl,hmm,n⟩
 refine⟨_,rfl,?_⟩
 have hnl1:c.heap.size≤nm:=Nat.le_trans hC2.size hnl
 have hC2:Chg (fun i=>i=H1.g) c ac:=(hC2.keep n)
 have hgn:H1.g≠nm:=by omega
 have a:=eb n a
 have hbd1:=eb n hbd1
 refine⟨⟨hbd1,trivial⟩,?_⟩
 refine ys (Yk.nilCheck rfl zz) (ys (Yk.fieldAt Mn rfl zz) (yI (Yk.storeC (i:=2) (v:= .map (some nm)) rfl rfl a (Nat.le_of_ble_eq_true rfl) No rfl rfl fun ad t o am=> ?_)))
 have b:=b.trans (m.trans n)
 have b:=Aa b o (Nat.le_trans (Nat.le_refl _) (by omega))
 have hm1:=hm1.keep n
 have hm1:=MapF.other hm1 o (DV (by omega))
 have hbd1:=kb o hbd1 (by omega)
 have hC2:Chg (fun i=>i=H1.g) c ad:=Chg.set hC2 o (.inl rfl)
 have hmm:=MapF.other hmm o (DV (by omega))
 clear a
 have a:=t;clear t
 have an:=bl a
 refine⟨⟨hbd1,trivial⟩,?_⟩
 refine ys (Yk.nilCheck rfl zz) (ys (Yk.fieldAt HJ rfl zz) (yD rfl (Yk.storeC (i:=3) (v:=(Value.slice none 0 0)) rfl rfl a (Nat.le_of_ble_eq_true rfl) Nl rfl rfl fun ae u p ao=> ?_)))
 have b:=Aa b p (Nat.le_trans (Nat.le_refl _) (by omega))
 have hm1:=MapF.other hm1 p (DV (by omega))
 have hbd1:=kb p hbd1 (by omega)
 have hC2:Chg (fun i=>i=H1.g) c ae:=Chg.set hC2 p (.inl rfl)
 have hmm:=MapF.other hmm p (DV (by omega))
 clear a
 have a:=u;clear u
 have ap:=bl a
 refine rt0 rfl ?_
 have af:=a
 have hT2:=f.syncedT hC2 hnl1 hmm aa.size af
 exact⟨_,rfl,by have:=hT1.trans hT2;rw[hD1]at this;exact this⟩

theorem SO(w0 w:World)(a:Ext w0 w)(H:Dk)(D:An)(hS:DkS w0.heap.size w H D)(bd bn bb:Nat)(s b:List UInt8)(vb:Value)(hbd:w.heap[bd]? =some (.cells ([PQ H.g 0]).toArray 24 (0,0)))(hbn:w.heap[bn]? =some (.cells ([St s]).toArray 9 (0,0)))(hbb:w.heap[bb]? =some (.cells ([vb]).toArray 35 (0,0)))(hrb:RB w vb b)(hoff:b= []∨∀i,vb.ownBlock=some i→¬A1 H D.files.length i)(hs:Bu s=true)(hbl:b.length<1099511627776)(hfs:∀x∈D.files,x.1.length<1099511627776)(hn:D.acts.length<1099511627776)(k:Nat)(hlk:AD D.now s=some k):
  Calls Tryz.prog 55 #[PQ bd 0,PQ bn 0,PQ bb 0] w fun e w' =>∃H',e = .returned (.tuple #[])∧DkT w0.heap.size w H D w' H' (BN D s b):=by
 have hb:=hS.blk
 have hgl0:=hS.lo.1
 have hsz0:=a.size
 have aa:=hS
 have hrb0:=hrb
 have ab:=a
 have hT12:=DkT.refl hS
 have hkl:=(hS.ok.now.look hlk).1
 have hlb:=hfs _ (BD (d:=([],0)) hkl)
 refine gG (args:= [PQ bd 0,PQ bn 0,PQ bb 0]) Tryz.func55 rfl 32 rfl rfl ?_
 have hE:=Ext.refl w
 refine B5 [0,1,2,3,4,5,6] [] [] fun u h=> ?_
 have hT12:DkT w0.heap.size w H D u H D:=(hT12.keep h)
 have hb:=eb h hb
 have hbd:=eb h hbd
 have hbn:=eb h hbn
 refine ys (Yk.cell1 JU rfl rfl (cellAt hbd rfl) zz) (ys (Yk.nilCheck rfl zz) (ys (Yk.fieldAt Mf rfl zz) (ys (Yk.cell1 JW rfl rfl (cellAt hb rfl) zz) (ys (Yk.cell1 Io rfl rfl (cellAt hbn rfl) zz) (ys (Yk.lookMS E4 En (fun _ _=>Dq) JW Fu rfl rfl hT12.st.now (B0 hs).2 hlk zz) (ys (Yk.eqlNil JX rfl zz) (kB (rfl) (cF rfl (B5 [0,1,2,3,4,5,6] [] [] fun f j=> ?_)))))))))
 have hT12:DkT w0.heap.size w H D f H D:=(hT12.keep j)
 have hb:=eb j hb
 have hbd:=eb j hbd
 have hbn:=eb j hbn
 refine ys (Yk.cell1 JU rfl rfl (cellAt hbd rfl) zz) (ys (Yk.nilCheck rfl zz) (ys (Yk.fieldAt Mf rfl zz) (ys (Yk.cell1 JW rfl rfl (cellAt hb rfl) zz) (ys (Yk.cell1 Io rfl rfl (cellAt hbn rfl) zz) (ys (Yk.lookMS E4 En (fun _ _=>Dq) JW Fu rfl rfl hT12.st.now (B0 hs).2 hlk zz) ?_)))))
 have hTc:=hT12
 have hSc:=hTc.st
 have hfa:=hSc.files.at_ k hkl
 have hfb:=hfa.blk
 have hfl:=(bl hfb)
 have hfo:=hfa.row
 have hflo:=hfa.lo
 have hfv:(H.V k).ownBlock≠some (H.F k):=fun q=>BC (hSc.tF hkl) (hSc.tV hkl q) (by decide) rfl
 have hC:Chg (fun i=>i=(H.F k)∨(H.V k).ownBlock=some i) f f:=Chg.refl _ _
 have hsy:=hSc.ok.syn _ (BD (d:=([],0)) hkl)
 have hZ1:=h.trans j
 have hbb:=eb hZ1 hbb
 have hvb:Value.ownBlock (H.V k)≠some bb:=fun q=>BC (BF hbb) (hSc.tV hkl q) (by decide) rfl
 have ac:bb≠(H.F k):=BC (BF hbb) (hSc.tF hkl) (by decide)
 refine B5 [0,1,2,3,4,5,6,7,8,9] [6,9] [] fun p l=> ?_
 have hC:Chg (fun i=>i=(H.F k)∨(H.V k).ownBlock=some i) f p:=(hC.keep l)
 have hZ2:=hZ1.trans l
 have hE:=hE.trans hZ2
 have a:=a.trans hZ2
 have hbb:=eb l hbb
 have hfb:=eb l hfb
 have hfo:=Stab.own _ _ _ _ _ _ _ _ hfo l
 refine ys (Yk.nilCheck rfl zz) (ys (Yk.fieldAt K9 rfl zz) (ys (Yk.cell1 S2 rfl rfl (cellAt hfb rfl) zz) (ys (Yk.cell1 S2 rfl rfl (cellAt hbb rfl) zz) (yC (Yk.appendRB _ _ w0.heap.size (.int .u8 0) S2 SH rfl S2 ((D.files.getD k ([],0)).1) (b) (CI hfo (vr (H.V k) rfl)) (RB.of (hrb.keep hE) (vr vb rfl)) (by omega) a.size fun o r m c=> ?_)))))
 have c:Grew p r (H.V k) o:=c
 have y:Value.ownBlock o≠some (H.F k):=Ax c hfv (bl hfb)
 have hbb:=Am hbb c hvb
 clear hE
 have a:=Ag a c hfo (Nat.le_refl _)
 have hfb:=Am hfb c hfv
 have hvf:=fun i e=>(c.fresh i e).imp id (fun q=>Nat.le_trans hC.size q)
 have hC:Chg (fun i=>i=(H.F k)∨(H.V k).ownBlock=some i) f r:=Chg.grew hC c (fun i e=> .inl (.inr e))
 clear hfo
 refine ys (Yk.nilCheck rfl zz) (ys (Yk.fieldAt K9 rfl zz) (yC (Yk.storeC (i:=0) (v:=o) rfl rfl hfb (Nat.le_of_ble_eq_true rfl) IQ (CN m).1 (CN m).2 fun z t n ad=> ?_)))
 have hbb:=kb n hbb (by omega)
 have a:=Aa a n (Nat.le_trans (Nat.le_refl _) (by omega))
 have hC:Chg (fun i=>i=(H.F k)∨(H.V k).ownBlock=some i) f z:=Chg.set hC n (.inl (.inl rfl))
 have m:=A5 m n y
 clear hfb
 have hfb:=t;clear t
 have ae:=bl hfb
 refine rt0 rfl ?_
 have hTf:=hSc.setFileT (x:=((D.files.getD k ([],0)).1++b,(D.files.getD k ([],0)).2)) hkl (by simp only[List.length_append];omega) hC ⟨hfb,(show World.ownsRow _ _ _ _ _ _ _ from by simpa using m),hflo⟩ hvf
 exact⟨_,rfl,by rw[LC hlk];exact hTc.trans hTf⟩

theorem SP(w0 w:World)(a:Ext w0 w)(H:Dk)(D:An)(hS:DkS w0.heap.size w H D)(bd bn bb:Nat)(s b:List UInt8)(vb:Value)(hbd:w.heap[bd]? =some (.cells ([PQ H.g 0]).toArray 24 (0,0)))(hbn:w.heap[bn]? =some (.cells ([St s]).toArray 9 (0,0)))(hbb:w.heap[bb]? =some (.cells ([vb]).toArray 35 (0,0)))(hrb:RB w vb b)(hoff:b= []∨∀i,vb.ownBlock=some i→¬A1 H D.files.length i)(hs:Bu s=true)(hbl:b.length<1099511627776)(hfs:∀x∈D.files,x.1.length<1099511627776)(hn:D.acts.length<1099511627776)(hlk:AD D.now s=none):
  Calls Tryz.prog 55 #[PQ bd 0,PQ bn 0,PQ bb 0] w fun e w' =>∃H',e = .returned (.tuple #[])∧DkT w0.heap.size w H D w' H' (BN D s b):=by
 have hb:=hS.blk
 have hgl0:=hS.lo.1
 have hsz0:=a.size
 have an:=hS
 have hrb0:=hrb
 have ao:=a
 have hT12:=DkT.refl hS
 refine gG (args:= [PQ bd 0,PQ bn 0,PQ bb 0]) Tryz.func55 rfl 32 rfl rfl ?_
 have hE:=Ext.refl w
 refine B5 [0,1,2,3,4,5,6] [] [] fun w3 h=> ?_
 have hT12:DkT w0.heap.size w H D w3 H D:=(hT12.keep h)
 have hb:=eb h hb
 have hbd:=eb h hbd
 have hbn:=eb h hbn
 refine ys (Yk.cell1 JU rfl rfl (cellAt hbd rfl) zz) (ys (Yk.nilCheck rfl zz) (ys (Yk.fieldAt Mf rfl zz) (ys (Yk.cell1 JW rfl rfl (cellAt hb rfl) zz) (ys (Yk.cell1 Io rfl rfl (cellAt hbn rfl) zz) (ys (Yk.lookMN E4 En (fun _ _=>Dq) JW Fu rfl rfl hT12.st.now (B0 hs).2 hlk zz) (ys (Yk.eqlNil JX rfl zz) (kB (rfl) (cT rfl (gS (Yk.run (v:= .agg #[.slice none 0 0,NI 0]) (by kernel_rfl) ?_))))))))))
 have hE:=hE.trans h
 have hzb:=hE.size
 refine gS (Yk.box (cs:=([.slice none 0 0,NI 0]:List Value).toArray) (show _=(.agg ([.slice none 0 0,NI 0]:List Value).toArray:Value)from rfl) fun p w7 ab af l az=> ?_)
 have a0:=hE.size
 have a:=a.trans h
 have a1:=a.size
 have a2:=AE (bl hb) ab
 have a3:=AE (bl hbd) ab
 have a4:=AE (bl hbn) ab
 have hbb:=eb h hbb
 have a5:=AE (bl hbb) ab
 have m:=af;clear af
 have a6:p<w7.heap.size:=by omega
 refine gS (Yk.alloc (cs:=([.pointer none]).toArray) Pj fun r ar t ag j a7=> ?_)
 have hE:=hE.trans l
 have au:=hE.size
 have a:=a.trans l
 have av:=a.size
 have hb:=eb l hb
 have a8:=AE (bl hb) t
 have hbd:=eb l hbd
 have a9:=AE (bl hbd) t
 have hbn:=eb l hbn
 have ba:=AE (bl hbn) t
 have hbb:=eb l hbb
 have bc:=AE (bl hbb) t
 have be:=AE (bl m) t
 have u:=ag;clear ag
 have bf:r<ar.heap.size:=by omega
 refine gS (Yk.storeC (i:=0) (v:=PQ p 0) rfl rfl u (Nat.le_of_ble_eq_true rfl) Np rfl rfl fun bg ah k bh=> ?_)
 have hb:=eb j hb
 have hb:=kb k hb (by omega)
 have hbd:=eb j hbd
 have hbd:=kb k hbd (by omega)
 have hbn:=eb j hbn
 have hbn:=kb k hbn (by omega)
 have hbb:=eb j hbb
 have hbb:=kb k hbb (by omega)
 have hE:=hE.trans j
 have hE:=Aa hE k (Nat.le_trans au (by omega))
 have a:=a.trans j
 have a:=Aa a k (Nat.le_trans av (by omega))
 have m:=eb j m
 have m:=kb k m (by omega)
 clear u
 have u:=ah;clear ah
 have bi:=bl u
 refine gS (Yk.cell1 JU rfl rfl (cellAt hbd rfl) (gS (Yk.mkFunc (vs:= #[PQ r 0,PQ bn 0]) (by simp only[List.map_toArray,List.map_cons,List.map_nil];exact congrArg List.toArray (D4 (vr (PQ r 0) rfl) (vr (PQ bn 0) rfl))) ?_)))
 have hT1:=an.newFileT (f:=p) hE (by omega) m ao.size
 obtain⟨H1,ad⟩:∃x,x=({ H with F:=Bz H.F D.files.length p,V:=Bz H.V D.files.length (.slice none 0 0) } :Dk):=⟨_,rfl⟩
 obtain⟨D1,hD1⟩:∃x,x=({ D with files:=D.files++ [([],0)] } :An):=⟨_,rfl⟩
 rw[←ad,←hD1]at hT1
 have y:=hT1.st
 have ai:H1.g=H.g:=by rw[ad]
 have hF1:H1.F D.files.length=p:=by rw[ad];exact BW _ _ _
 have hD1l:D1.files.length=D.files.length+1:=by rw[hD1];simp
 have hsl:=(B0 hs).1
 have hbd1:=hbd
 have hbn1:=hbn
 have hbb1:=hbb
 have hrb1:=(hrb.keep hE)
 refine gS (Yk.callA2 J4 rfl rfl ((Rb w0 _ a H1 D1 y H.g ai (.func (.func 57) #[] #[PQ r 0,PQ bn 0]) ⟨[],s,D.files.length⟩ ⟨by rw[hD1l];exact Nat.lt_succ_self _,fun _=>hs,Nat.zero_le _⟩ (.inl ⟨r,bn,rfl,by rw[hF1];exact u,hbn,rfl,show s.length≠0 from by omega⟩) (by rw[hD1];exact hn)).mono ?_))
 rintro e bj ⟨va2,rfl,hT2⟩
 refine⟨_,rfl,?_⟩
 have a:=Chg.ext a hT2.chg (fun i q=>(y.foot q).2.2)
 have hT12:=hT1.trans hT2
 obtain⟨H2,aj⟩:∃x,x=({ H1 with va:=va2 } :Dk):=⟨_,rfl⟩
 obtain⟨D2,hD2⟩:∃x,x=turnedD D1 ⟨[],s,D.files.length⟩:=⟨_,rfl⟩
 rw[←aj,←hD2]at hT12
 have aw:H2.g=H.g:=by rw[aj];exact ai
 have hlk2:AD D2.now s=some D.files.length:=by rw[hD2];exact(look_turn _ _ _).trans ((if_neg (show s.length≠0 by omega)).trans (if_pos rfl))
 have hkl:=(hT12.st.ok.now.look hlk2).1
 have hlb:(D2.files.getD D.files.length ([],0)).1.length<1099511627776:=by rw[hD2,hD1];show((D.files++ [(([]:List UInt8),0)]).getD D.files.length ([],0)).1.length<_;rw[DW];decide
 have hoff1:=Pg hT1 hrb0 hoff
 have hbd:=DkT.box hT2 y hbd1 (by decide) (by decide) (by decide) (by decide)
 have hbn:=DkT.box hT2 y hbn1 (by decide) (by decide) (by decide) (by decide)
 have hbb:=DkT.box hT2 y hbb1 (by decide) (by decide) (by decide) (by decide)
 have hrb:=hrb1.chg hT2.chg hoff1
 have hb:=hT12.st.blk
 rw[aw]at hb
 have hgl2:=(bl hb)
 refine B5 [0,1,2,3,4,5,6] [] [] fun n o=> ?_
 have hT12:DkT w0.heap.size w H D n H2 D2:=(hT12.keep o)
 have hb:=eb o hb
 have hbd:=eb o hbd
 have hbn:=eb o hbn
 refine ys (Yk.cell1 JU rfl rfl (cellAt hbd rfl) zz) (ys (Yk.nilCheck rfl zz) (ys (Yk.fieldAt Mf rfl zz) (ys (Yk.cell1 JW rfl rfl (cellAt hb rfl) zz) (ys (Yk.cell1 Io rfl rfl (cellAt hbn rfl) zz) (ys (Yk.lookMS E4 En (fun _ _=>Dq) JW Fu rfl rfl hT12.st.now (B0 hs).2 hlk2 zz) ?_)))))
 have hTc:=hT12
 have hSc:=hTc.st
 have hfa:=hSc.files.at_ (D.files.length) hkl
 have hfb:=hfa.blk
 have hfl:=(bl hfb)
 have hfo:=hfa.row
 have hflo:=hfa.lo
 have hfv:(H2.V (D.files.length)).ownBlock≠some (H2.F (D.files.length)):=fun q=>BC (hSc.tF hkl) (hSc.tV hkl q) (by decide) rfl
 have hC:Chg (fun i=>i=(H2.F (D.files.length))∨(H2.V (D.files.length)).ownBlock=some i) n n:=Chg.refl _ _
 have hsy:=hSc.ok.syn _ (BD (d:=([],0)) hkl)
 have hbb:=eb o hbb
 have hvb:Value.ownBlock (H2.V (D.files.length))≠some bb:=fun q=>BC (BF hbb) (hSc.tV hkl q) (by decide) rfl
 have bk:bb≠(H2.F (D.files.length)):=BC (BF hbb) (hSc.tF hkl) (by decide)
 refine B5 [0,1,2,3,4,5,6,7,8,9] [6,9] [] fun ak z=> ?_
 have hC:Chg (fun i=>i=(H2.F (D.files.length))∨(H2.V (D.files.length)).ownBlock=some i) n ak:=(hC.keep z)
 have hZ1:=o.trans z
 have a:=a.trans hZ1
 have hrb:=hrb.keep hZ1
 have hbb:=eb z hbb
 have hfb:=eb z hfb
 have hfo:=Stab.own _ _ _ _ _ _ _ _ hfo z
 refine ys (Yk.nilCheck rfl zz) (ys (Yk.fieldAt K9 rfl zz) (ys (Yk.cell1 S2 rfl rfl (cellAt hfb rfl) zz) (ys (Yk.cell1 S2 rfl rfl (cellAt hbb rfl) zz) (yC (Yk.appendRB _ _ w0.heap.size (.int .u8 0) S2 SH rfl S2 ((D2.files.getD (D.files.length) ([],0)).1) (b) (CI hfo (vr (H2.V (D.files.length)) rfl)) (RB.of hrb (vr vb rfl)) (by omega) a.size fun ae al aa c=> ?_)))))
 have c:Grew ak al (H2.V (D.files.length)) ae:=c
 have ax:Value.ownBlock ae≠some (H2.F (D.files.length)):=Ax c hfv (bl hfb)
 have a:=Ag a c hfo (Nat.le_refl _)
 have hbb:=Am hbb c hvb
 clear hrb
 have hfb:=Am hfb c hfv
 have hvf:=fun i e=>(c.fresh i e).imp id (fun q=>Nat.le_trans hC.size q)
 have hC:Chg (fun i=>i=(H2.F (D.files.length))∨(H2.V (D.files.length)).ownBlock=some i) n al:=Chg.grew hC c (fun i e=> .inl (.inr e))
 clear hfo
 refine ys (Yk.nilCheck rfl zz) (ys (Yk.fieldAt K9 rfl zz) (yC (Yk.storeC (i:=0) (v:=ae) rfl rfl hfb (Nat.le_of_ble_eq_true rfl) IQ (CN aa).1 (CN aa).2 fun ay am ac bm=> ?_)))
 have a:=Aa a ac (Nat.le_trans (Nat.le_refl _) (by omega))
 have hbb:=kb ac hbb (by omega)
 have hC:Chg (fun i=>i=(H2.F (D.files.length))∨(H2.V (D.files.length)).ownBlock=some i) n ay:=Chg.set hC ac (.inl (.inl rfl))
 have aa:=A5 aa ac ax
 clear hfb
 have hfb:=am;clear am
 have bo:=bl hfb
 refine rt0 rfl ?_
 have hTf:=hSc.setFileT (x:=((D2.files.getD (D.files.length) ([],0)).1++b,(D2.files.getD (D.files.length) ([],0)).2)) hkl (by simp only[List.length_append];omega) hC ⟨hfb,(show World.ownsRow _ _ _ _ _ _ _ from by simpa using aa),hflo⟩ hvf
 exact⟨_,rfl,by rw[←Rc hlk];have:=hTc.trans hTf;rw[hD2,hD1]at this;exact this⟩
open Go.RowKit
set_option maxRecDepth 100000
set_option linter.unusedVariables false
set_option linter.unusedSimpArgs false
theorem Yk.cloN{P:Program}{K:Value→World→Prop}{ρ:Ai}{w:World}{d:Option Tmp}{ty:TypeId}{pos:String}{af:Array Edge}{gd:Option (Nat × Bool)}{f:FuncId}{c:Operand}{v:Value}{caps:Array Value}{R:World→Prop}{at_:Array TypeId}(hp:Plain P f)(hc:Ab ρ c=v)(hve:v = .func (.func f) #[] caps) 
  (h:Calls P f caps w fun e w' =>e = .returned (.tuple #[])∧R w') (hk:∀w',R w' →K (.tuple #[]) w'):Yk P K ((execOp (Ab ρ) ⟨d, .call ⟨.value c,#[],at_⟩,ty,pos,af,gd⟩).run P w):=
 Yk.clo hp (hc.trans hve) _ (by simp) (h.mono fun e w' q=>⟨_,q.1,hk w' q.2⟩)
theorem CA:A3 Tryz.prog 52 5 5:=fun b o w=>by simp[go_sem]
theorem Pk:(Tryz.prog.info? 4).map (·.size)=some 1:=by kernel_rfl
set_option maxHeartbeats 1600000
theorem J5(w0 w:World)(c:Ext w0 w)(H:Dk)(D:An)(hS:DkS w0.heap.size w H D)(hdn:D.down=false)(har:D.arm<9223372036854775808)(v:Value)(f:FuncId)(caps:Array Value)(hpl:Plain Tryz.prog f)(hve:v = .func (.func f) #[] caps)(g:An→An) 
  (hc:∀w1 D1,DkT w0.heap.size w H D w1 H D1→D1=(Bh D).1→Calls Tryz.prog f caps w1 fun e w' =>e = .returned (.tuple #[])∧∃H',DkT w0.heap.size w1 H D1 w' H' (g D1)):
  Calls Tryz.prog 54 #[PQ H.g 0,v] w fun e w' =>∃H',e = .returned (NI (CR D g).2)∧DkT w0.heap.size w H D w' H' (CR D g).1:=by
 have hb:=hS.blk
 have hgl:=(bl hb)
 have hgl0:=hS.lo.1
 have hsz0:=c.size
 have h:=hS
 have hgr:=World.grownBy.refl w (some H.g)
 refine gG (args:= [PQ H.g 0,v]) Tryz.func54 rfl 27 rfl rfl ?_
 have hE:=Ext.refl w
 by_cases ha0:D.arm=0
 ·have hA:Bh D=(D,false):=if_pos ha0
  have hV:CR D g=(g D,0):=by unfold CR;rw[hA];rfl
  refine gS (Yk.nilCheck rfl (gS (Yk.fieldAt CA rfl (gS (Yk.cell1 Pb rfl rfl (cellAt hb rfl) (gS (Yk.eqI (a:=(D.arm:Nat)) (b:=(0:Nat)) rfl rfl (Ca _ _ _ _) (kF (by omega) (cF rfl ?_)))))))))
  have hT1:=DkT.ofExt h hE
  have hD1:D=(Bh D).1:=by rw[hA]
  refine gS (Yk.cloN hpl rfl hve (hc _ _ hT1 hD1) fun s hR6=> ?_)
  obtain⟨H3,hT2⟩:=hR6
  have hT3:=hT1.trans hT2
  refine AX rfl (vr (NI 0) rfl) ?_
  exact⟨H3,by rw[hV],by rw[hV];exact hT3⟩
 have hA:Bh D=({ D with arm:=D.arm-1,down:=decide (D.arm-1=0) },decide (D.arm-1=0)):=if_neg ha0
 by_cases ha1:D.arm-1=0
 ·rw[decide_eq_true ha1]at hA
  have hV:CR D g=({ D with arm:=D.arm-1,down:=true },9):=by unfold CR;rw[hA];rfl
  refine gS (Yk.nilCheck rfl (gS (Yk.fieldAt CA rfl (gS (Yk.cell1 Pb rfl rfl (cellAt hb rfl) (gS (Yk.eqI (a:=(D.arm:Nat)) (b:=(0:Nat)) rfl rfl (Ca _ _ _ _) (kT (by omega) (cT rfl (gS (Yk.nilCheck rfl (gS (Yk.fieldAt CA rfl (gS (Yk.cell1 Pb rfl rfl (cellAt hb rfl) (gS (Yk.bin (xv:=NI D.arm) (yv:=NI 1) rfl rfl rfl (BL _ _ _ (by omega) (by omega)) (gS (Yk.nilCheck rfl (gS (Yk.fieldAt CA rfl (gS (Yk.storeC (i:=5) (v:=NI ((D.arm)-(1))) rfl rfl hb (Nat.le_of_ble_eq_true rfl) Ph rfl rfl fun p j k t=> ?_)))))))))))))))))))))))
  have hgr:w.grownBy p (some H.g):=Aq hgr k (fun _ e=> .inl e)
  clear hE
  have c:=Aa c k (Nat.le_trans (Nat.le_refl _) (by omega))
  clear hb
  have hb:=j;clear j
  have u:=bl hb
  refine gS (Yk.nilCheck rfl (gS (Yk.fieldAt CA rfl (gS (Yk.cell1 Pb rfl rfl (cellAt hb rfl) (gS (Yk.eqI (a:=((D.arm)-(1):Nat)) (b:=(0:Nat)) rfl rfl (AY _ _ _ _) (kT (by omega) (cT rfl (gS (Yk.nilCheck rfl (gS (Yk.fieldAt Me rfl (gS (Yk.storeC (i:=6) (v:= .bool (true)) rfl rfl hb (Nat.le_of_ble_eq_true rfl) Pk rfl rfl fun q l m x=> ?_)))))))))))))))
  have hgr:w.grownBy q (some H.g):=Aq hgr m (fun _ e=> .inl e)
  have c:=Aa c m (Nat.le_trans (Nat.le_refl _) (by omega))
  clear hb
  have hb:=l;clear l
  have y:=bl hb
  refine AX rfl (vr (NI 9) rfl) ?_
  exact⟨H,by rw[hV],by rw[hV];exact h.setBlkT hgr hb⟩
 rw[decide_eq_false ha1]at hA
 have hV:CR D g=(g { D with arm:=D.arm-1,down:=false },0):=by unfold CR;rw[hA];rfl
 refine gS (Yk.nilCheck rfl (gS (Yk.fieldAt CA rfl (gS (Yk.cell1 Pb rfl rfl (cellAt hb rfl) (gS (Yk.eqI (a:=(D.arm:Nat)) (b:=(0:Nat)) rfl rfl (Ca _ _ _ _) (kT (by omega) (cT rfl (gS (Yk.nilCheck rfl (gS (Yk.fieldAt CA rfl (gS (Yk.cell1 Pb rfl rfl (cellAt hb rfl) (gS (Yk.bin (xv:=NI D.arm) (yv:=NI 1) rfl rfl rfl (BL _ _ _ (by omega) (by omega)) (gS (Yk.nilCheck rfl (gS (Yk.fieldAt CA rfl (gS (Yk.storeC (i:=5) (v:=NI ((D.arm)-(1))) rfl rfl hb (Nat.le_of_ble_eq_true rfl) Ph rfl rfl fun r n o z=> ?_)))))))))))))))))))))))
 have hgr:w.grownBy r (some H.g):=Aq hgr o (fun _ e=> .inl e)
 clear hE
 have c:=Aa c o (Nat.le_trans (Nat.le_refl _) (by omega))
 clear hb
 have hb:=n;clear n
 have aa:=bl hb
 refine gS (Yk.nilCheck rfl (gS (Yk.fieldAt CA rfl (gS (Yk.cell1 Pb rfl rfl (cellAt hb rfl) (gS (Yk.eqI (a:=((D.arm)-(1):Nat)) (b:=(0:Nat)) rfl rfl (AY _ _ _ _) (kF (by omega) (cF rfl ?_)))))))))
 have hT1:=h.setBlkT hgr hb
 have hD1:({ D with quota:=D.quota,refused:=D.refused,arm:=D.arm-1,down:=D.down } :An)=(Bh D).1:=by rw[hA,hdn]
 refine gS (Yk.cloN hpl rfl hve (hc _ _ hT1 hD1) fun ab hR35=> ?_)
 obtain⟨H3,hT2⟩:=hR35
 have hT3:=hT1.trans hT2
 refine AX rfl (vr (NI 0) rfl) ?_
 exact⟨H3,by rw[hV],by rw[hV];rw[←hdn];exact hT3⟩
open Go.RowKit
theorem Gc(t:TypeId)(a b:Int)(h: -9223372036854775808≤a+b∧a+b≤9223372036854775807):Go.binOp .add t (.int .i64 a) (.int .i64 b)=pure (.int .i64 (a+b)):=by
  show pure (Value.int .i64 (IntKind.i64.wrap (a+b)))=_
  rw[IntWalk.i64_in _ h]
theorem J6(t:TypeId)(a b:Int)(h: -9223372036854775808≤a-b∧a-b≤9223372036854775807):Go.binOp .sub t (.int .i64 a) (.int .i64 b)=pure (.int .i64 (a-b)):=by
  show pure (Value.int .i64 (IntKind.i64.wrap (a-b)))=_
  rw[IntWalk.i64_in _ h]
end Go.Proofs.YtejpjjhkjdpeaaaGreatDoor
