/- Part 5 of what stands behind these statements: laws and walks of the functions that are reached. Conditions: those that each theorem names. -/
import Derived.Test.YtmonlobfofkbdaaDoorU4
set_option linter.unusedVariables false
set_option linter.unusedSimpArgs false
namespace Go.Proofs.YtmonlobfofkbdaaDoor
open Go.RowKit
abbrev AD(v:Value)(b:Bs)(i:Nat):Dp:=(⟨b,((i:Nat):Int)⟩,⟨v⟩)
def CZ(b:Bs)(i:Nat):Option (UInt8 × Nat):=if i<b.length then some (b.getD i 0,i+1)else none
def Bh(b:Bs)(i:Nat):Option (Nat × Nat):=(Bb 0 (b.drop i)).map fun x=>(x.1,i+x.2)
def CI(b:Bs)(i most:Nat):Option (Bs × Nat):=match Bb 0 (b.drop i)with
  | none=>none
  | some x=>if most<x.1 then none else if b.length<i+x.2+x.1 then none else some ((b.drop (i+x.2)).take x.1,i+x.2+x.1)
def C7(b:Bs)(i:Nat):Option (BZ × Nat):=if h:i+32≤b.length then some (⟨(b.drop i).take 32,by rw[List.length_take,List.length_drop];omega⟩,i+32)else none
theorem Hi{b:Bs}{i n:Nat}{c:UInt8}(h:CZ b i=some (c,n)):n≤b.length:=by
  unfold CZ at h
  split at h
  · cases h;omega
  · cases h
theorem Dk{b:Bs}{i n k:Nat}(hi:i≤b.length)(h:Bh b i=some (k,n)):n≤b.length:=by
  unfold Bh at h
  cases hd:Bb 0 (b.drop i)with
  | none=>rw[hd]at h;cases h
  | some x=>
    rw[hd]at h
    cases h
    have:=(Ej _ _ _ hd).2.1
    rw[List.length_drop]at this
    omega
theorem EC{b:Bs}{i most n:Nat}{s:Bs}(h:CI b i most=some (s,n)):n≤b.length∧s.length≤most:=by
  unfold CI at h
  split at h
  · cases h
  · split at h
    · cases h
    · split at h
      · cases h
      · cases h
        rw[List.length_take,List.length_drop]
        omega
theorem ES{b:Bs}{i n:Nat}{x:BZ}(h:C7 b i=some (x,n)):n≤b.length:=by
  unfold C7 at h
  split at h
  · cases h;omega
  · cases h
theorem Io{b:Bs}{i n k:Nat}(h:Bh b i=some (k,n)):k<9223372036854775808:=by
  unfold Bh at h
  cases hd:Bb 0 (b.drop i)with
  | none=>rw[hd]at h;cases h
  | some x=>
    rw[hd]at h
    cases h
    have h1:=Gd _ _ _ hd
    have h2:=(Ej _ _ _ hd).2.2
    have h3:128^x.2≤128^9:=Nat.pow_le_pow_right (by decide) (by omega)
    have h4:(128:Nat)^9=9223372036854775808:=by decide
    omega
theorem RB.keptE{w w' :World}{v:Value}{l:List UInt8}(h:RB w v l){row:Option Nat}(hg:w.grownBy w' row)(hv:l= []∨v.ownBlock≠row):RB w' v l:=by
  rcases hv with rfl | hv
  · obtain⟨h1,ao,cap,rfl,h2,h3,h4,h5⟩:=h
    exact⟨h1,ao,cap,rfl,h2,h3,h4,fun a ha j u hu=>by simp[Lib.byteCells]at hu⟩
  · exact RB.kept h hg (.inr hv)
def updP(b:Bs)(i:Nat):Option (AO × Nat):=(CZ b i).bind fun x=>(CI b x.2 32).bind fun y=>(C7 b y.2).bind fun z=>some (⟨x.1,y.1,zid,z.1⟩,z.2)
def C8{σ:Type}(f:σ→Option σ):Nat→σ→Option σ
  | 0,s=>some s
  | n+1,s=>(C8 f n s).bind f
theorem FN{σ:Type}{f:σ→Option σ}{s:σ}{j:Nat}(h:C8 f j s=none):∀n,j≤n→C8 f n s=none
  | 0,hn=>by(have:j=0:=by omega);rw[this]at h;exact h
  | n+1,hn=>by
    by_cases e:j=n+1
    · rw[←e];exact h
    · show(C8 f n s).bind f=none
      rw[FN h n (by omega)];rfl
theorem DU{σ:Type}{f:σ→Option σ}{s t:σ}{j:Nat}(h:C8 f j s=some t):C8 f (j+1) s=f t:=by
  show(C8 f j s).bind f=_
  rw[h];rfl
def BA{σ:Type}(b:Bs)(i most:Nat)(st:σ × Nat→Option (σ × Nat))(s:σ):Option (σ × Nat):=
  (Bh b i).bind fun x=>if x.1≤most then C8 st x.1 (s,x.2)else none
def addUpd(b:Bs)(s:List AO × Nat):Option (List AO × Nat):=(updP b s.2).map fun x=>(s.1++ [x.1],x.2)
def addId(b:Bs)(s:List Bs × Nat):Option (List Bs × Nat):=(C7 b s.2).map fun x=>(s.1++ [x.1.1],x.2)
theorem FO{σ:Type}{b:Bs}{i most:Nat}{st:σ × Nat→Option (σ × Nat)}{s:σ}(h:Bh b i=none∨∃n j,Bh b i=some (n,j)∧¬n≤most):BA b i most st s=none:=by
  unfold BA
  rcases h with h | ⟨n,j,h,hn⟩
  · rw[h];rfl
  · rw[h];exact if_neg hn
theorem C0{σ:Type}{b:Bs}{i most n j:Nat}{st:σ × Nat→Option (σ × Nat)}{s:σ}(h:Bh b i=some (n,j))(hn:n≤most):BA b i most st s=C8 st n (s,j):=by
  unfold BA
  rw[h];exact if_pos hn
theorem Hj{σ:Type}{f:σ→Option σ}{s t:σ}{n:Nat}(h:C8 f (n+1) s=some t):∃u,C8 f n s=some u∧f u=some t:=by
  have h:(C8 f n s).bind f=some t:=h
  exact Option.bind_eq_some_iff.1 h
theorem Gq{b:Bs}:∀(n:Nat) {s t:List AO × Nat},C8 (addUpd b) n s=some t→(∀u∈s.1,u.name.length≤32)→∀u∈t.1,u.name.length≤32
  | 0,s,t,h,hs=>by cases h;exact hs
  | n+1,s,t,h,hs=>by
    obtain⟨u,h1,h2⟩:=Hj h
    have hu:=Gq n h1 hs
    unfold addUpd at h2
    cases hd:updP b u.2 with
    | none=>rw[hd]at h2;cases h2
    | some x=>
      rw[hd]at h2
      cases h2
      intro y hy
      rcases List.mem_append.1 hy with hy | hy
      · exact hu y hy
      · rw[List.mem_singleton.1 hy]
        unfold updP at hd
        simp only[Option.bind_eq_some_iff]at hd
        obtain⟨c,h3,d,h4,e,h5,h6⟩:=hd
        cases h6
        exact(EC h4).2
theorem Ip{σ:Type}{f:List σ × Nat→Option (List σ × Nat)}(hf:∀s t,f s=some t→t.1.length=s.1.length+1):∀(n:Nat) {s t:List σ × Nat},C8 f n s=some t→t.1.length=s.1.length+n
  | 0,s,t,h=>by cases h;rfl
  | n+1,s,t,h=>by
    obtain⟨u,h1,h2⟩:=Hj h
    rw[hf u t h2,Ip hf n h1];omega
theorem Gr{σ:Type}{b:Bs}{i most:Nat}{st:σ × Nat→Option (σ × Nat)}{s:σ}{t:σ × Nat}(h:BA b i most st s=some t):∃n j,Bh b i=some (n,j)∧n≤most∧C8 st n (s,j)=some t:=by
  unfold BA at h
  rw[Option.bind_eq_some_iff]at h
  obtain⟨x,h1,h2⟩:=h
  split at h2
  · rename_i hn
    exact⟨x.1,x.2,h1,hn,h2⟩
  · cases h2
theorem JY{b:Bs}{i:Nat}{t:List AO × Nat}(h:BA b i 128 (addUpd b) []=some t):t.1.length≤128∧∀u∈t.1,u.name.length≤32:=by
  obtain⟨n,j,-,hn,hi⟩:=Gr h
  refine⟨?_,Gq n hi (fun u hu=>by cases hu)⟩
  have:=Ip (fun s t h=>by unfold addUpd at h;rw[Option.map_eq_some_iff]at h;obtain⟨x,_,rfl⟩:=h;simp) n hi
  rw[this];simpa using hn
theorem KY{b:Bs}{i:Nat}{t:List Bs × Nat}(h:BA b i 65536 (addId b) []=some t):t.1.length≤65536:=by
  obtain⟨n,j,-,hn,hi⟩:=Gr h
  have:=Ip (fun s t h=>by unfold addId at h;rw[Option.map_eq_some_iff]at h;obtain⟨x,_,rfl⟩:=h;simp) n hi
  rw[this];simpa using hn
def Cg(b:Bs)(m:Msg)(i:Nat):Option (Msg × Nat):=
  if m.kind=1 then some (m,i)
  else if m.kind=2 then(BA b i 128 (addUpd b) []).bind fun x=>some ({ m with refs:=x.1 },x.2)
  else if m.kind=3 then(BA b i 65536 (addId b) []).bind fun x=>(BA b x.2 65536 (addId b) []).bind fun y=>some ({ m with wants:=x.1,haves:=y.1 },y.2)
  else if m.kind=4 then(Bh b i).bind fun x=>(C7 b x.2).bind fun y=>some ({ m with size:=((x.1:Nat):Int),id:=y.1 },y.2)
  else if m.kind=5 then(Bh b i).bind fun x=>some ({ m with at_:=((x.1:Nat):Int) },x.2)
  else if m.kind=6 then(Bh b i).bind fun x=>(CI b x.2 256).bind fun y=>some ({ m with at_:=((x.1:Nat):Int),bytes:=y.1 },y.2)
  else if m.kind=7 then(Bh b i).bind fun x=>(C7 b x.2).bind fun y=>(CI b y.2 32).bind fun z=>(C7 b z.2).bind fun o=>(C7 b o.2).bind fun n=>(CZ b n.2).bind fun f=>if f.1.toNat≤1 then some ({ m with size:=((x.1:Nat):Int),id:=y.1,name:=z.1,old:=o.1,new:=n.1,force:=decide (f.1.toNat=1) },f.2)else none
  else if m.kind=8 then(Bh b i).bind fun x=>some ({ m with code:=((x.1:Nat):Int) },x.2)
  else none
noncomputable def Dm(b:Bs):Option Msg:=(CZ b 0).bind fun k=>if(AT k.1).isSome=true then(Bh b k.2).bind fun s=>(Cg b ⟨k.1,((s.1:Nat):Int),[],[],[],0,0,zid,[],[],zid,zid,false,0⟩ s.2).bind fun z=>if z.2=b.length∧rightB z.1=true then some z.1 else none else none
theorem Dl{b:Bs}{n j1 j2:Nat}{k:UInt8}{p:Ag}(h1:CZ b 0=some (k,j1))(hK:AT k=some p)(h2:Bh b j1=some (n,j2)):
    Dm b=(Cg b ⟨k,((n:Nat):Int),[],[],[],0,0,zid,[],[],zid,zid,false,0⟩ j2).bind fun z=>if z.2=b.length∧rightB z.1=true then some z.1 else none:=by
  unfold Dm
  simp only[h1,Option.bind_some,hK,Option.isSome_some,↓reduceIte,h2]
theorem Na{b:Bs}{m:Msg}{i:Nat}(h:m.kind=1):Cg b m i=some (m,i):=by
  unfold Cg
  rw[if_pos h]
theorem Nb{b:Bs}{m:Msg}{i:Nat}(h:m.kind=2):Cg b m i=(BA b i 128 (addUpd b) []).bind fun x=>some ({ m with refs:=x.1 },x.2):=by
  unfold Cg
  rw[if_neg (show ¬m.kind=1 by rw[h];decide),if_pos h]
theorem Nc{b:Bs}{m:Msg}{i:Nat}(h:m.kind=3):Cg b m i=(BA b i 65536 (addId b) []).bind fun x=>(BA b x.2 65536 (addId b) []).bind fun y=>some ({ m with wants:=x.1,haves:=y.1 },y.2):=by
  unfold Cg
  rw[if_neg (show ¬m.kind=1 by rw[h];decide),if_neg (show ¬m.kind=2 by rw[h];decide),if_pos h]
theorem Nd{b:Bs}{m:Msg}{i:Nat}(h:m.kind=4):Cg b m i=(Bh b i).bind fun x=>(C7 b x.2).bind fun y=>some ({ m with size:=((x.1:Nat):Int),id:=y.1 },y.2):=by
  unfold Cg
  rw[if_neg (show ¬m.kind=1 by rw[h];decide),if_neg (show ¬m.kind=2 by rw[h];decide),if_neg (show ¬m.kind=3 by rw[h];decide),if_pos h]
theorem Nf{b:Bs}{m:Msg}{i:Nat}(h:m.kind=5):Cg b m i=(Bh b i).bind fun x=>some ({ m with at_:=((x.1:Nat):Int) },x.2):=by
  unfold Cg
  rw[if_neg (show ¬m.kind=1 by rw[h];decide),if_neg (show ¬m.kind=2 by rw[h];decide),if_neg (show ¬m.kind=3 by rw[h];decide),if_neg (show ¬m.kind=4 by rw[h];decide),if_pos h]
theorem Ng{b:Bs}{m:Msg}{i:Nat}(h:m.kind=6):Cg b m i=(Bh b i).bind fun x=>(CI b x.2 256).bind fun y=>some ({ m with at_:=((x.1:Nat):Int),bytes:=y.1 },y.2):=by
  unfold Cg
  rw[if_neg (show ¬m.kind=1 by rw[h];decide),if_neg (show ¬m.kind=2 by rw[h];decide),if_neg (show ¬m.kind=3 by rw[h];decide),if_neg (show ¬m.kind=4 by rw[h];decide),if_neg (show ¬m.kind=5 by rw[h];decide),if_pos h]
theorem Nh{b:Bs}{m:Msg}{i:Nat}(h:m.kind=7):Cg b m i=(Bh b i).bind fun x=>(C7 b x.2).bind fun y=>(CI b y.2 32).bind fun z=>(C7 b z.2).bind fun o=>(C7 b o.2).bind fun n=>(CZ b n.2).bind fun f=>if f.1.toNat≤1 then some ({ m with size:=((x.1:Nat):Int),id:=y.1,name:=z.1,old:=o.1,new:=n.1,force:=decide (f.1.toNat=1) },f.2)else none:=by
  unfold Cg
  rw[if_neg (show ¬m.kind=1 by rw[h];decide),if_neg (show ¬m.kind=2 by rw[h];decide),if_neg (show ¬m.kind=3 by rw[h];decide),if_neg (show ¬m.kind=4 by rw[h];decide),if_neg (show ¬m.kind=5 by rw[h];decide),if_neg (show ¬m.kind=6 by rw[h];decide),if_pos h]
theorem Ni{b:Bs}{m:Msg}{i:Nat}(h:m.kind=8):Cg b m i=(Bh b i).bind fun x=>some ({ m with code:=((x.1:Nat):Int) },x.2):=by
  unfold Cg
  rw[if_neg (show ¬m.kind=1 by rw[h];decide),if_neg (show ¬m.kind=2 by rw[h];decide),if_neg (show ¬m.kind=3 by rw[h];decide),if_neg (show ¬m.kind=4 by rw[h];decide),if_neg (show ¬m.kind=5 by rw[h];decide),if_neg (show ¬m.kind=6 by rw[h];decide),if_neg (show ¬m.kind=7 by rw[h];decide),if_pos h]
open Go.RowKit
set_option maxRecDepth 100000
def BB:PanicEntry:= { v:= .iface 107 (.agg #[]),recovered:=false }
theorem Nj:∃fs,Tryd.prog.underlying 107=some (.struct fs):=CU (by kernel_rfl)
theorem A4:AJ Tryd.prog 111 1 1:=fun b o w=>by simp[go_sem]
theorem BY:AJ Tryd.prog 111 0 0:=fun b o w=>by simp[go_sem]
theorem Cr:AG Tryd.prog 109:=fun _ _=>by kernel_rfl
theorem C1:(Tryd.prog.info? 3).map (·.size)=some 1:=by kernel_rfl
theorem IR:AG Tryd.prog 145:=fun _ _=>by kernel_rfl
theorem E4:AG Tryd.prog 146:=fun _ _=>by kernel_rfl
theorem IS:AG Tryd.prog 147:=fun _ _=>by kernel_rfl
set_option maxHeartbeats 1600000
theorem AQ(w:World)(b:Bool):
  Calls Tryd.prog 109 #[.bool b] w fun r w' =>(∃v,r = .returned v∧v = .tuple #[]∧b=true∧Ext w w')∨∃ch,r = .panicked ch∧ch= [BB]∧b=false∧Ext w w' :=by
 refine Bt (args:= [.bool (b)]) Tryd.func109 rfl 6 rfl (Nat.le_of_ble_eq_true rfl) ?_
 intro c hb
 have e:c 0=(.bool (b):Value):=hb.get 0
 clear hb
 have hE:=Ext.refl w
 refine sk fun g f=>(wt (oM rfl (oS rfl (Yk.notB e (oZ (tN (f _ _ ?_)))))))
 refine A0 (!(b)) (vr (.bool (!(b))) rfl) (fun a=> ?_) (fun a=> ?_)
 ·refine wt (oS rfl (Yk.run (v:= .agg #[]) (by kernel_rfl) (oS rfl (Yk.mkIface (Nj).choose_spec (vr (.agg #[]) rfl) (oP rfl (Yp.panic (vr (.iface 107 (.agg #[])) rfl) (postP_panic ?_)))))))
  exact .inr ⟨_,rfl,rfl,by simpa using a,hE⟩
 refine Ak (CB (fn:=Tryd.f109) [] rfl [] (.tuple #[]) rfl trivial ?_)
 exact .inl ⟨_,rfl,rfl,by simpa using a,hE⟩

theorem Hk(w:World)(r:Nat)(v:Value)(b:Bs)(i:Nat)(hb:w.heap[r]? =some (.cells (AU (AD v b (i))).toArray 111 (0,0)))(hr:RB w v b)(hap:b= []∨OB v r)(hi:i≤b.length)(hl:b.length≤4611686018427387904):
  Calls Tryd.prog 108 #[PQ r 0] w fun e w' =>(∃x,e = .returned x∧∃c n,CZ b i=some (c,n)∧x=B8 c∧w'.heap[r]? =some (.cells (AU (AD v b (n))).toArray 111 (0,0))∧w.grownBy w' (some r))∨∃ch,e = .panicked ch∧CZ b i=none∧ch= [BB]∧w.grownBy w' (some r):=by
 have hlr:=(bl hb)
 have hgr:=World.grownBy.refl w (some r)
 refine Bt (args:= [PQ r 0]) Tryd.func108 rfl 32 rfl (Nat.le_of_ble_eq_true rfl) ?_
 intro al hb
 have f:al 0=(PQ r 0:Value):=hb.get 0
 clear hb
 have hE:=Ext.refl w
 refine sk fun K1 ad=>(wt (oA rfl (oZ ?_)))
 by_cases hlt:i<b.length
 ·have hP:CZ b i=some (b.getD i 0,i+1):=if_pos hlt
  refine tN (ad _ _ (sk fun K2 am=> ?_))
  refine A3 10 _ [Is (PQ r 0),Is (PQ r 0),Is (PQ r 1),Is (NI i),Is (PQ r 0),Is (PQ r 0),Is (PQ r 0),Is (v),Is (NI b.length),Is (.bool (true))] (by kernel_rfl) [3,4,5,6,7,8,9,10,11,12,13] (by kernel_rfl) (by kernel_rfl) (by kernel_rfl) rfl rfl rfl (fun _ _=>trivial) (Lb trivial) ?an ?hQ1001
  case an=>
   refine⟨?_,?_,?_,?_,?_,?_,?_,?_,?_,?_,?_,trivial⟩
   ·refine Ah (Aa rfl fun σ w1 hC h=> ?_)
    have g:=(Ad (h 0 (by decide))).trans f
    exact Yk.move g ⟨Ext.refl _,rfl⟩
   ·refine Ah (Aa rfl fun σ w1 hC h=> ?_)
    have k:=Ad (h 3 (by decide))
    exact Yk.nilCheck k ⟨Ext.refl _,rfl⟩
   ·refine Ah (Aa rfl fun σ w1 hC h=> ?_)
    have m:=Ad (h 4 (by decide))
    exact Yk.fieldAt A4 m ⟨Ext.refl _,rfl⟩
   ·refine Ah (Aa rfl fun σ w1 hC h=> ?_)
    have o:=Ad (h 5 (by decide))
    exact Yk.cell1 Fs rfl o (Ac (eb hC hb) (show(AU (AD v b (i)))[1]? =some (NI i:Value)from BE (AD v b (i)))) ⟨Ext.refl _,rfl⟩
   ·refine Ah (Aa rfl fun σ w1 hC h=> ?_)
    have g:=(Ad (h 0 (by decide))).trans f
    exact Yk.move g ⟨Ext.refl _,rfl⟩
   ·refine Ah (Aa rfl fun σ w1 hC h=> ?_)
    have p:=Ad (h 7 (by decide))
    exact Yk.nilCheck p ⟨Ext.refl _,rfl⟩
   ·refine Ah (Aa rfl fun σ w1 hC h=> ?_)
    have q:=Ad (h 8 (by decide))
    exact Yk.fieldAt BY q ⟨Ext.refl _,rfl⟩
   ·refine Ah (Aa rfl fun σ w1 hC h=> ?_)
    have s:=Ad (h 9 (by decide))
    exact Yk.cell1 Ff rfl s (Ac (eb hC hb) (show(AU (AD v b (i)))[0]? =some (v:Value)from BP (AD v b (i)))) ⟨Ext.refl _,rfl⟩
   ·refine Ah (Aa rfl fun σ w1 hC h=> ?_)
    have t:=Ad (h 10 (by decide))
    exact Yk.lenRB Ff (RB.of (hr.keep (hE.trans hC)) t) ⟨Ext.refl _,rfl⟩
   ·refine Ah (Aa rfl fun σ w1 hC h=> ?_)
    have u:=Ad (h 6 (by decide))
    have y:=Ad (h 11 (by decide))
    exact Yk.eqI (a:=(i:Nat)) (b:=(b.length:Nat)) u y (AZ _ _ _ _) ⟨Ext.refl _,(congrArg Value.bool (decide_eq_true ((by omega))))⟩
   ·exact trivial
  intro ao w4 z he hf
  obtain⟨-,-,-,-,-,-,-,-,-,k12,-⟩:=hf
  obtain⟨f,j,-⟩:=he.hold [(0,_),(2,B8 (0))] ⟨f,rfl,trivial⟩ rfl
  clear he
  have hb:=eb z hb
  have hgr:w.grownBy w4 (some r):=An hgr z.grown (fun _ e=>by cases e)
  have hE:=hE.trans z
  have aa:ao 12 = .bool (true):=k12
  clear k12
  refine Yp.callA1 Cr aa ?_
  refine Ar (AQ _ (true)) ?_ ?_
  rotate_left
  ·
   rintro ch w8 ⟨rfl,hb,hx⟩
   refine Aq (postP_panic ?_)
   cases hb
  rintro v_ w9 ⟨rfl,bf,ab⟩
  have hb:=eb ab hb
  have hgr:w.grownBy w9 (some r):=An hgr ab.grown (fun _ e=>by cases e)
  have hE:=hE.trans ab
  intro ae af
  have f:ae 0=(PQ r 0:Value):=(af 0 (by decide)).trans f
  have j:ae 2=(B8 (0):Value):=(af 2 (by decide)).trans j
  have hr:=(hr.keep hE)
  refine tN (am _ _ (sk fun bg ar=>(wt (oM rfl (oS rfl (Yk.nilCheck f (oS rfl (Yk.fieldAt A4 (vr (PQ r 0) rfl) (oS rfl (Yk.cell1 Fs rfl (vr (PQ r 1) rfl) (Ac hb (show(AU (AD v b (i)))[1]? =some (NI i:Value)from BE (AD v b (i)))) (oS rfl (Yk.bin (xv:=NI i) (yv:=NI 1) rfl rfl rfl (AN _ _ _ (by omega)) (oS rfl (Yk.nilCheck f (oS rfl (Yk.fieldAt A4 (vr (PQ r 0) rfl) (oS rfl (Yk.storeC (i:=1) (v:=NI ((i)+(1))) (vr (PQ r 1) rfl) (vr (NI ((i)+(1))) rfl) hb (by rw[DH];decide) C1 rfl rfl fun ag ah ai bh=> ?_))))))))))))))))))
  clear hb
  have hr:=RB.keptE hr ai hap
  have hgr:w.grownBy ag (some r):=An hgr ai (fun _ e=> .inl e)
  clear hE
  have hb:ag.heap[r]? =some (.cells (AU ((⟨b,(((i)+(1):Nat):Int)⟩,⟨v⟩):Dp)).toArray 111 (0,0)):=Bf ah (Eh (AD v b (i)) (((i)+(1):Nat):Int));clear ah
  have bi:=bl hb
  refine oZ (tN (ar _ _ (sk fun bj au=> ?_)))
  refine Bi [Is (PQ r 0),Is (PQ r 0),Is (PQ r 0),Is (v),Is (PQ r 0),Is (PQ r 0),Is (PQ r 1),Is (NI ((i)+(1))),Is (NI (((i)+(1))-(1))),BD (B8 (b.getD (((i)+(1))-(1)) 0)),Is (B8 (b.getD (((i)+(1))-(1)) 0)),Is (B8 (b.getD (((i)+(1))-(1)) 0))] (by kernel_rfl) [21,22,23,24,25,26,27,28,29,30,31,2] (by kernel_rfl) (by kernel_rfl) (Qh ⟨Stab.pcell _,(Cz trivial)⟩) ?av ?hQ2003
  case av=>
   refine⟨?_,?_,?_,?_,?_,?_,?_,?_,?_,?_,?_,?_,trivial⟩
   ·refine Aa rfl fun σ w1 hC h=> ?_
    have g:=(Ad (h 0 (by decide))).trans f
    exact Yk.move g ⟨Ext.refl _,rfl⟩
   ·refine Aa rfl fun σ w1 hC h=> ?_
    have aw:=Ad (h 21 (by decide))
    exact Yk.nilCheck aw ⟨Ext.refl _,rfl⟩
   ·refine Aa rfl fun σ w1 hC h=> ?_
    have ax:=Ad (h 22 (by decide))
    exact Yk.fieldAt BY ax ⟨Ext.refl _,rfl⟩
   ·refine Aa rfl fun σ w1 hC h=> ?_
    have ay:=Ad (h 23 (by decide))
    exact Yk.cell1 Ff rfl ay (Ac (eb hC hb) (show(AU ((⟨b,(((i)+(1):Nat):Int)⟩,⟨v⟩):Dp))[0]? =some (v:Value)from BP ((⟨b,(((i)+(1):Nat):Int)⟩,⟨v⟩):Dp))) ⟨Ext.refl _,rfl⟩
   ·refine Aa rfl fun σ w1 hC h=> ?_
    have g:=(Ad (h 0 (by decide))).trans f
    exact Yk.move g ⟨Ext.refl _,rfl⟩
   ·refine Aa rfl fun σ w1 hC h=> ?_
    have az:=Ad (h 25 (by decide))
    exact Yk.nilCheck az ⟨Ext.refl _,rfl⟩
   ·refine Aa rfl fun σ w1 hC h=> ?_
    have a0:=Ad (h 26 (by decide))
    exact Yk.fieldAt A4 a0 ⟨Ext.refl _,rfl⟩
   ·refine Aa rfl fun σ w1 hC h=> ?_
    have a1:=Ad (h 27 (by decide))
    exact Yk.cell1 Fs rfl a1 (Ac (eb hC hb) (show(AU ((⟨b,(((i)+(1):Nat):Int)⟩,⟨v⟩):Dp))[1]? =some (NI ((i)+(1)):Value)from BE ((⟨b,(((i)+(1):Nat):Int)⟩,⟨v⟩):Dp))) ⟨Ext.refl _,rfl⟩
   ·refine Aa rfl fun σ w1 hC h=> ?_
    have a2:=Ad (h 28 (by decide))
    exact Yk.bin (xv:=NI ((i)+(1))) (yv:=NI 1) a2 rfl rfl (CM _ _ _ (by omega) (by omega)) ⟨Ext.refl _,rfl⟩
   ·refine Aa rfl fun σ w1 hC h=> ?_
    have a3:=Ad (h 24 (by decide))
    have a4:=Ad (h 29 (by decide))
    exact Yk.atRB (l:=b) (i:=((i)+(1))-(1)) Ff Lm (RB.of (hr.keep hC) a3) a4 (by omega) fun _ h=>⟨Ext.refl _,h⟩
   ·refine Aa rfl fun σ w1 hC h=> ?_
    have a5:(BD (B8 (b.getD (((i)+(1))-(1)) 0))) (σ 30) w1:=h 30 (by decide)
    exact Yk.loadC u5 rfl a5 ⟨Ext.refl _,rfl⟩
   ·refine Aa rfl fun σ w1 hC h=> ?_
    have a6:=Ad (h 31 (by decide))
    exact Yk.assign a6 ⟨Ext.refl _,rfl⟩
  intro aj a7 ac he hf
  obtain⟨-,-,-,-,-,-,-,-,-,-,-,k2,-⟩:=hf
  have f:aj 0=PQ r 0:=he.at_ f rfl
  clear he
  have hr:=hr.keep ac
  have hgr:w.grownBy a7 (some r):=An hgr ac.grown (fun _ e=>by cases e)
  have hb:=eb ac hb
  have j:aj 2=B8 (b.getD (((i)+(1))-(1)) 0):=k2
  clear k2
  refine tN (au _ _ (Ap (Br (fn:=Tryd.f108) _ rfl [B8 (b.getD (((i)+(1))-(1)) 0)] (B8 (b.getD (((i)+(1))-(1)) 0)) rfl ⟨j,trivial⟩ ?_)))
  exact .inl ⟨_,rfl,_,_,hP,rfl,hb,hgr⟩
 have hP:CZ b i=none:=if_neg hlt
 refine tN (ad _ _ (sk fun bk bm=> ?_))
 refine A3 10 _ [Is (PQ r 0),Is (PQ r 0),Is (PQ r 1),Is (NI i),Is (PQ r 0),Is (PQ r 0),Is (PQ r 0),Is (v),Is (NI b.length),Is (.bool (false))] (by kernel_rfl) [3,4,5,6,7,8,9,10,11,12,13] (by kernel_rfl) (by kernel_rfl) (by kernel_rfl) rfl rfl rfl (fun _ _=>trivial) (Lb trivial) ?a8 ?hQ3001
 case a8=>
  refine⟨?_,?_,?_,?_,?_,?_,?_,?_,?_,?_,?_,trivial⟩
  ·refine Ah (Aa rfl fun σ w1 hC h=> ?_)
   have g:=(Ad (h 0 (by decide))).trans f
   exact Yk.move g ⟨Ext.refl _,rfl⟩
  ·refine Ah (Aa rfl fun σ w1 hC h=> ?_)
   have k:=Ad (h 3 (by decide))
   exact Yk.nilCheck k ⟨Ext.refl _,rfl⟩
  ·refine Ah (Aa rfl fun σ w1 hC h=> ?_)
   have m:=Ad (h 4 (by decide))
   exact Yk.fieldAt A4 m ⟨Ext.refl _,rfl⟩
  ·refine Ah (Aa rfl fun σ w1 hC h=> ?_)
   have o:=Ad (h 5 (by decide))
   exact Yk.cell1 Fs rfl o (Ac (eb hC hb) (show(AU (AD v b (i)))[1]? =some (NI i:Value)from BE (AD v b (i)))) ⟨Ext.refl _,rfl⟩
  ·refine Ah (Aa rfl fun σ w1 hC h=> ?_)
   have g:=(Ad (h 0 (by decide))).trans f
   exact Yk.move g ⟨Ext.refl _,rfl⟩
  ·refine Ah (Aa rfl fun σ w1 hC h=> ?_)
   have p:=Ad (h 7 (by decide))
   exact Yk.nilCheck p ⟨Ext.refl _,rfl⟩
  ·refine Ah (Aa rfl fun σ w1 hC h=> ?_)
   have q:=Ad (h 8 (by decide))
   exact Yk.fieldAt BY q ⟨Ext.refl _,rfl⟩
  ·refine Ah (Aa rfl fun σ w1 hC h=> ?_)
   have s:=Ad (h 9 (by decide))
   exact Yk.cell1 Ff rfl s (Ac (eb hC hb) (show(AU (AD v b (i)))[0]? =some (v:Value)from BP (AD v b (i)))) ⟨Ext.refl _,rfl⟩
  ·refine Ah (Aa rfl fun σ w1 hC h=> ?_)
   have t:=Ad (h 10 (by decide))
   exact Yk.lenRB Ff (RB.of (hr.keep (hE.trans hC)) t) ⟨Ext.refl _,rfl⟩
  ·refine Ah (Aa rfl fun σ w1 hC h=> ?_)
   have u:=Ad (h 6 (by decide))
   have y:=Ad (h 11 (by decide))
   exact Yk.eqI (a:=(i:Nat)) (b:=(b.length:Nat)) u y (AZ _ _ _ _) ⟨Ext.refl _,(congrArg Value.bool (decide_eq_false ((by omega))))⟩
  ·exact trivial
 intro a9 ba ak he hf
 obtain⟨-,-,-,-,-,-,-,-,-,k12,-⟩:=hf
 obtain⟨f,j,-⟩:=he.hold [(0,_),(2,B8 (0))] ⟨f,rfl,trivial⟩ rfl
 clear he
 have hb:=eb ak hb
 have hgr:w.grownBy ba (some r):=An hgr ak.grown (fun _ e=>by cases e)
 have aa:a9 12 = .bool (false):=k12
 clear k12
 refine Yp.callA1 Cr aa ?_
 refine Ar (AQ _ (false)) ?_ ?_
 rotate_left
 ·
  rintro ch bn ⟨rfl,hb,hx⟩
  refine Aq (postP_panic ?_)
  exact .inr ⟨_,rfl,hP,rfl,(An hgr hx.grown (fun _ e=>by cases e))⟩
 rintro v_ bo ⟨rfl,bb,bp⟩
 cases bb

theorem Ch(w:World)(r:Nat)(v:Value)(b:Bs)(i:Nat)(hb:w.heap[r]? =some (.cells (AU (AD v b (i))).toArray 111 (0,0)))(hr:RB w v b)(hap:b= []∨OB v r)(hi:i≤b.length)(hl:b.length≤4611686018427387904):
  Calls Tryd.prog 110 #[PQ r 0] w fun e w' =>(∃x,e = .returned x∧∃c n,Bh b i=some (c,n)∧x=NI c∧w'.heap[r]? =some (.cells (AU (AD v b (n))).toArray 111 (0,0))∧w.grownBy w' (some r))∨∃ch,e = .panicked ch∧Bh b i=none∧ch= [BB]∧w.grownBy w' (some r):=by
 have hlr:=(bl hb)
 have hgr:=World.grownBy.refl w (some r)
 refine Bt (args:= [PQ r 0]) Tryd.func110 rfl 27 rfl (Nat.le_of_ble_eq_true rfl) ?_
 intro aq hb
 have g:aq 0=(PQ r 0:Value):=hb.get 0
 clear hb
 have hE:=Ext.refl w
 refine sk fun K1 aj=>(wt (oA rfl (oZ ?_)))
 rcases hd:Bb 0 (b.drop i)with _ | ⟨xn,xk⟩
 ·have hP:Bh b i=none:=by unfold Bh;rw[hd];rfl
  refine tN (aj _ _ (sk fun K2 ar=> ?_))
  refine Bi [Is (PQ r 0),Is (PQ r 0),Is (PQ r 0),Is (v),Is (PQ r 0),Is (PQ r 0),Is (PQ r 1),Is (NI i),Is (.tuple #[NI 0,NI 0,NI 6]),Is (.tuple #[NI 0,NI 0,NI 6]),Is (NI 0),Is (NI 0),Is (NI 6),Is (NI 0),Is (NI 0),Is (NI 6)] (by kernel_rfl) [7,8,9,10,11,12,13,14,15,6,16,17,18,3,4,5] (by kernel_rfl) (by kernel_rfl) (EG (Cc trivial)) ?au ?hQ1001
  case au=>
   refine⟨?_,?_,?_,?_,?_,?_,?_,?_,?_,?_,?_,?_,?_,?_,?_,?_,trivial⟩
   ·refine Aa rfl fun σ w1 hC h=> ?_
    have j:=(Ad (h 0 (by decide))).trans g
    exact Yk.move j ⟨Ext.refl _,rfl⟩
   ·refine Aa rfl fun σ w1 hC h=> ?_
    have l:=Ad (h 7 (by decide))
    exact Yk.nilCheck l ⟨Ext.refl _,rfl⟩
   ·refine Aa rfl fun σ w1 hC h=> ?_
    have m:=Ad (h 8 (by decide))
    exact Yk.fieldAt BY m ⟨Ext.refl _,rfl⟩
   ·refine Aa rfl fun σ w1 hC h=> ?_
    have o:=Ad (h 9 (by decide))
    exact Yk.cell1 Ff rfl o (Ac (eb hC hb) (show(AU (AD v b (i)))[0]? =some (v:Value)from BP (AD v b (i)))) ⟨Ext.refl _,rfl⟩
   ·refine Aa rfl fun σ w1 hC h=> ?_
    have j:=(Ad (h 0 (by decide))).trans g
    exact Yk.move j ⟨Ext.refl _,rfl⟩
   ·refine Aa rfl fun σ w1 hC h=> ?_
    have p:=Ad (h 11 (by decide))
    exact Yk.nilCheck p ⟨Ext.refl _,rfl⟩
   ·refine Aa rfl fun σ w1 hC h=> ?_
    have q:=Ad (h 12 (by decide))
    exact Yk.fieldAt A4 q ⟨Ext.refl _,rfl⟩
   ·refine Aa rfl fun σ w1 hC h=> ?_
    have s:=Ad (h 13 (by decide))
    exact Yk.cell1 Fs rfl s (Ac (eb hC hb) (show(AU (AD v b (i)))[1]? =some (NI i:Value)from BE (AD v b (i)))) ⟨Ext.refl _,rfl⟩
   ·refine Aa rfl fun σ w1 hC h=> ?_
    have t:=Ad (h 10 (by decide))
    have u:=Ad (h 14 (by decide))
    refine Yk.callA2 IR t u ?_
    refine((show Calls _ _ _ _ (fun e k=>e = .returned (.tuple #[NI 0,NI 0,NI 6])∧Ext _ k)from(Jz _ v b (hr.keep (hE.trans hC)) i hi).mono fun e k ⟨h1,h2⟩=>by subst h2;subst h1;refine⟨?_,Ext.refl _⟩;rw[hd];rfl)).mono ?_
    rintro e k ⟨rfl,hx⟩
    exact⟨_,rfl,hx,rfl⟩
   ·refine Aa rfl fun σ w1 hC h=> ?_
    have y:=Ad (h 15 (by decide))
    exact Yk.move y ⟨Ext.refl _,rfl⟩
   ·refine Aa rfl fun σ w1 hC h=> ?_
    have f:=Ad (h 6 (by decide))
    exact Yk.extract (vs:= [NI 0,NI 0,NI 6]) f (show _=some (NI 0:Value)from rfl) ⟨Ext.refl _,rfl⟩
   ·refine Aa rfl fun σ w1 hC h=> ?_
    have f:=Ad (h 6 (by decide))
    exact Yk.extract (vs:= [NI 0,NI 0,NI 6]) f (show _=some (NI 0:Value)from rfl) ⟨Ext.refl _,rfl⟩
   ·refine Aa rfl fun σ w1 hC h=> ?_
    have f:=Ad (h 6 (by decide))
    exact Yk.extract (vs:= [NI 0,NI 0,NI 6]) f (show _=some (NI 6:Value)from rfl) ⟨Ext.refl _,rfl⟩
   ·refine Aa rfl fun σ w1 hC h=> ?_
    have z:=Ad (h 16 (by decide))
    exact Yk.assign z ⟨Ext.refl _,rfl⟩
   ·refine Aa rfl fun σ w1 hC h=> ?_
    have aa:=Ad (h 17 (by decide))
    exact Yk.assign aa ⟨Ext.refl _,rfl⟩
   ·refine Aa rfl fun σ w1 hC h=> ?_
    have ab:=Ad (h 18 (by decide))
    exact Yk.assign ab ⟨Ext.refl _,rfl⟩
  intro ac w4 ad he hf
  obtain⟨-,-,-,-,-,-,-,-,-,-,-,-,-,k3,k4,k5,-⟩:=hf
  obtain⟨g,T2,-⟩:=he.hold [(0,_),(2,NI 0)] ⟨g,rfl,trivial⟩ rfl
  clear he
  have hb:=eb ad hb
  have hgr:w.grownBy w4 (some r):=An hgr ad.grown (fun _ e=>by cases e)
  have hE:=hE.trans ad
  have T3:ac 3=NI 0:=k3
  have T4:ac 4=NI 0:=k4
  have T5:ac 5=NI 6:=k5
  clear k3 k4 k5
  refine tN (ar _ _ (sk fun K6 ax=>(wt (oM rfl (oS rfl (Yk.eqI (a:=(6:Nat)) (b:=(0:Nat)) T5 rfl (k_eql _ _ _ _) (oP rfl (Yp.callA1 Cr (vr (.bool (decide ((6:Nat)=(0)))) rfl) ?_))))))))
  refine Ar (AQ _ (decide ((6:Nat)=(0)))) ?_ ?_
  rotate_left
  ·
   rintro ch w9 ⟨rfl,hb,hx⟩
   refine Aq (postP_panic ?_)
   have hno:=of_decide_eq_false hb
   exact .inr ⟨_,rfl,hP,rfl,(An hgr hx.grown (fun _ e=>by cases e))⟩
  rintro v_ ay ⟨rfl,az,ah⟩
  have hb:=eb ah hb
  have hgr:w.grownBy ay (some r):=An hgr ah.grown (fun _ e=>by cases e)
  have hE:=hE.trans ah
  have bg:=of_decide_eq_true az
  refine oZ (tN (ax _ _ (sk fun bh a0=>(wt (oM rfl (oM rfl (oS rfl (Yk.nilCheck g (oS rfl (Yk.fieldAt A4 (vr (PQ r 0) rfl) (oS rfl (Yk.storeC (i:=1) (v:=NI 0) (vr (PQ r 1) rfl) T4 hb (by rw[DH];decide) C1 rfl rfl fun ak al a1 bi=> ?_))))))))))))
  clear hb
  have hgr:w.grownBy ak (some r):=An hgr a1 (fun _ e=> .inl e)
  clear hE
  have hb:ak.heap[r]? =some (.cells (AU ((⟨b,((0:Nat):Int)⟩,⟨v⟩):Dp)).toArray 111 (0,0)):=Bf al (Eh (AD v b (i)) ((0:Nat):Int));clear al
  have bj:=bl hb
  refine oZ (tN (a0 _ _ (sk fun bk a2=>(wt (oM rfl (oA rfl (oZ (tN (a2 _ _ (Ap (Br (fn:=Tryd.f110) _ rfl [NI 0] (NI 0) rfl ⟨T3,trivial⟩ ?_)))))))))))
  omega
 have hP:Bh b i=some (xn,i+xk):=by unfold Bh;rw[hd];rfl
 refine tN (aj _ _ (sk fun bm a3=> ?_))
 refine Bi [Is (PQ r 0),Is (PQ r 0),Is (PQ r 0),Is (v),Is (PQ r 0),Is (PQ r 0),Is (PQ r 1),Is (NI i),Is (.tuple #[NI xn,NI (i+xk),NI 0]),Is (.tuple #[NI xn,NI (i+xk),NI 0]),Is (NI xn),Is (NI (i+xk)),Is (NI 0),Is (NI xn),Is (NI (i+xk)),Is (NI 0)] (by kernel_rfl) [7,8,9,10,11,12,13,14,15,6,16,17,18,3,4,5] (by kernel_rfl) (by kernel_rfl) (EG (Cc trivial)) ?a4 ?hQ2001
 case a4=>
  refine⟨?_,?_,?_,?_,?_,?_,?_,?_,?_,?_,?_,?_,?_,?_,?_,?_,trivial⟩
  ·refine Aa rfl fun σ w1 hC h=> ?_
   have j:=(Ad (h 0 (by decide))).trans g
   exact Yk.move j ⟨Ext.refl _,rfl⟩
  ·refine Aa rfl fun σ w1 hC h=> ?_
   have l:=Ad (h 7 (by decide))
   exact Yk.nilCheck l ⟨Ext.refl _,rfl⟩
  ·refine Aa rfl fun σ w1 hC h=> ?_
   have m:=Ad (h 8 (by decide))
   exact Yk.fieldAt BY m ⟨Ext.refl _,rfl⟩
  ·refine Aa rfl fun σ w1 hC h=> ?_
   have o:=Ad (h 9 (by decide))
   exact Yk.cell1 Ff rfl o (Ac (eb hC hb) (show(AU (AD v b (i)))[0]? =some (v:Value)from BP (AD v b (i)))) ⟨Ext.refl _,rfl⟩
  ·refine Aa rfl fun σ w1 hC h=> ?_
   have j:=(Ad (h 0 (by decide))).trans g
   exact Yk.move j ⟨Ext.refl _,rfl⟩
  ·refine Aa rfl fun σ w1 hC h=> ?_
   have p:=Ad (h 11 (by decide))
   exact Yk.nilCheck p ⟨Ext.refl _,rfl⟩
  ·refine Aa rfl fun σ w1 hC h=> ?_
   have q:=Ad (h 12 (by decide))
   exact Yk.fieldAt A4 q ⟨Ext.refl _,rfl⟩
  ·refine Aa rfl fun σ w1 hC h=> ?_
   have s:=Ad (h 13 (by decide))
   exact Yk.cell1 Fs rfl s (Ac (eb hC hb) (show(AU (AD v b (i)))[1]? =some (NI i:Value)from BE (AD v b (i)))) ⟨Ext.refl _,rfl⟩
  ·refine Aa rfl fun σ w1 hC h=> ?_
   have t:=Ad (h 10 (by decide))
   have u:=Ad (h 14 (by decide))
   refine Yk.callA2 IR t u ?_
   refine((show Calls _ _ _ _ (fun e k=>e = .returned (.tuple #[NI xn,NI (i+xk),NI 0])∧Ext _ k)from(Jz _ v b (hr.keep (hE.trans hC)) i hi).mono fun e k ⟨h1,h2⟩=>by subst h2;subst h1;refine⟨?_,Ext.refl _⟩;rw[hd];rfl)).mono ?_
   rintro e k ⟨rfl,hx⟩
   exact⟨_,rfl,hx,rfl⟩
  ·refine Aa rfl fun σ w1 hC h=> ?_
   have y:=Ad (h 15 (by decide))
   exact Yk.move y ⟨Ext.refl _,rfl⟩
  ·refine Aa rfl fun σ w1 hC h=> ?_
   have f:=Ad (h 6 (by decide))
   exact Yk.extract (vs:= [NI xn,NI (i+xk),NI 0]) f (show _=some (NI xn:Value)from rfl) ⟨Ext.refl _,rfl⟩
  ·refine Aa rfl fun σ w1 hC h=> ?_
   have f:=Ad (h 6 (by decide))
   exact Yk.extract (vs:= [NI xn,NI (i+xk),NI 0]) f (show _=some (NI (i+xk):Value)from rfl) ⟨Ext.refl _,rfl⟩
  ·refine Aa rfl fun σ w1 hC h=> ?_
   have f:=Ad (h 6 (by decide))
   exact Yk.extract (vs:= [NI xn,NI (i+xk),NI 0]) f (show _=some (NI 0:Value)from rfl) ⟨Ext.refl _,rfl⟩
  ·refine Aa rfl fun σ w1 hC h=> ?_
   have z:=Ad (h 16 (by decide))
   exact Yk.assign z ⟨Ext.refl _,rfl⟩
  ·refine Aa rfl fun σ w1 hC h=> ?_
   have aa:=Ad (h 17 (by decide))
   exact Yk.assign aa ⟨Ext.refl _,rfl⟩
  ·refine Aa rfl fun σ w1 hC h=> ?_
   have ab:=Ad (h 18 (by decide))
   exact Yk.assign ab ⟨Ext.refl _,rfl⟩
 intro ai a5 am he hf
 obtain⟨-,-,-,-,-,-,-,-,-,-,-,-,-,k3,k4,k5,-⟩:=hf
 obtain⟨g,T2,-⟩:=he.hold [(0,_),(2,NI 0)] ⟨g,rfl,trivial⟩ rfl
 clear he
 have hb:=eb am hb
 have hgr:w.grownBy a5 (some r):=An hgr am.grown (fun _ e=>by cases e)
 have T3:ai 3=NI xn:=k3
 have T4:ai 4=NI (i+xk):=k4
 have T5:ai 5=NI 0:=k5
 clear k3 k4 k5
 refine tN (a3 _ _ (sk fun bn a6=>(wt (oM rfl (oS rfl (Yk.eqI (a:=(0:Nat)) (b:=(0:Nat)) T5 rfl (k_eql _ _ _ _) (oP rfl (Yp.callA1 Cr (vr (.bool (decide ((0:Nat)=(0)))) rfl) ?_))))))))
 refine Ar (AQ _ (decide ((0:Nat)=(0)))) ?_ ?_
 rotate_left
 ·
  rintro ch bo ⟨rfl,hb,hx⟩
  refine Aq (postP_panic ?_)
  have hno:=of_decide_eq_false hb
  exact absurd rfl hno
 rintro v_ a7 ⟨rfl,a8,an⟩
 have hb:=eb an hb
 have hgr:w.grownBy a7 (some r):=An hgr an.grown (fun _ e=>by cases e)
 have bp:=of_decide_eq_true a8
 refine oZ (tN (a6 _ _ (sk fun bq a9=>(wt (oM rfl (oM rfl (oS rfl (Yk.nilCheck g (oS rfl (Yk.fieldAt A4 (vr (PQ r 0) rfl) (oS rfl (Yk.storeC (i:=1) (v:=NI (i+xk)) (vr (PQ r 1) rfl) T4 hb (by rw[DH];decide) C1 rfl rfl fun ao ap ba br=> ?_))))))))))))
 clear hb
 have hgr:w.grownBy ao (some r):=An hgr ba (fun _ e=> .inl e)
 clear hE
 have hb:ao.heap[r]? =some (.cells (AU ((⟨b,((i+xk:Nat):Int)⟩,⟨v⟩):Dp)).toArray 111 (0,0)):=Bf ap (Eh (AD v b (i)) ((i+xk:Nat):Int));clear ap
 have bs:=bl hb
 refine oZ (tN (a9 _ _ (sk fun bt bb=>(wt (oM rfl (oA rfl (oZ (tN (bb _ _ (Ap (Br (fn:=Tryd.f110) _ rfl [NI xn] (NI xn) rfl ⟨T3,trivial⟩ ?_)))))))))))
 exact .inl ⟨_,rfl,_,_,hP,rfl,hb,hgr⟩

theorem Gs(w:World)(r:Nat)(v:Value)(b:Bs)(i:Nat)(hb:w.heap[r]? =some (.cells (AU (AD v b (i))).toArray 111 (0,0)))(hr:RB w v b)(hap:b= []∨OB v r)(hi:i≤b.length)(hl:b.length≤4611686018427387904)(most:Nat):
  Calls Tryd.prog 113 #[PQ r 0,NI most] w fun e w' =>(∃x,e = .returned x∧∃c n,CI b i most=some (c,n)∧x=St c∧w'.heap[r]? =some (.cells (AU (AD v b (n))).toArray 111 (0,0))∧w.grownBy w' (some r))∨∃ch,e = .panicked ch∧CI b i most=none∧ch= [BB]∧w.grownBy w' (some r):=by
 have hlr:=(bl hb)
 have hgr:=World.grownBy.refl w (some r)
 refine Bt (args:= [PQ r 0,NI most]) Tryd.func113 rfl 30 rfl (Nat.le_of_ble_eq_true rfl) ?_
 intro ax hb
 have g:ax 0=(PQ r 0:Value):=hb.get 0
 have l:ax 1=(NI most:Value):=hb.get 1
 clear hb
 have hE:=Ext.refl w
 refine sk fun K1 ai=>(wt (oA rfl (oZ ?_)))
 rcases hd:Bb 0 (b.drop i)with _ | ⟨xn,xk⟩
 ·have hP:CI b i most=none:=by unfold CI;rw[hd]
  refine tN (ai _ _ (sk fun K2 a8=> ?_))
  refine Bi [Is (PQ r 0),Is (PQ r 0),Is (PQ r 0),Is (v),Is (PQ r 0),Is (PQ r 0),Is (PQ r 1),Is (NI i),Is (NI most),Is (.tuple #[St (([]:List UInt8)),NI 0,NI 6]),Is (.tuple #[St (([]:List UInt8)),NI 0,NI 6]),Is (St (([]:List UInt8))),Is (NI 0),Is (NI 6),Is (St (([]:List UInt8))),Is (NI 0),Is (NI 6)] (by kernel_rfl) [9,10,11,12,13,14,15,16,17,18,8,19,20,21,5,6,7] (by kernel_rfl) (by kernel_rfl) (Jn (Cc trivial)) ?a9 ?hQ1001
  case a9=>
   refine⟨?_,?_,?_,?_,?_,?_,?_,?_,?_,?_,?_,?_,?_,?_,?_,?_,?_,trivial⟩
   ·refine Aa rfl fun σ w1 hC h=> ?_
    have j:=(Ad (h 0 (by decide))).trans g
    exact Yk.move j ⟨Ext.refl _,rfl⟩
   ·refine Aa rfl fun σ w1 hC h=> ?_
    have m:=Ad (h 9 (by decide))
    exact Yk.nilCheck m ⟨Ext.refl _,rfl⟩
   ·refine Aa rfl fun σ w1 hC h=> ?_
    have o:=Ad (h 10 (by decide))
    exact Yk.fieldAt BY o ⟨Ext.refl _,rfl⟩
   ·refine Aa rfl fun σ w1 hC h=> ?_
    have p:=Ad (h 11 (by decide))
    exact Yk.cell1 Ff rfl p (Ac (eb hC hb) (show(AU (AD v b (i)))[0]? =some (v:Value)from BP (AD v b (i)))) ⟨Ext.refl _,rfl⟩
   ·refine Aa rfl fun σ w1 hC h=> ?_
    have j:=(Ad (h 0 (by decide))).trans g
    exact Yk.move j ⟨Ext.refl _,rfl⟩
   ·refine Aa rfl fun σ w1 hC h=> ?_
    have q:=Ad (h 13 (by decide))
    exact Yk.nilCheck q ⟨Ext.refl _,rfl⟩
   ·refine Aa rfl fun σ w1 hC h=> ?_
    have s:=Ad (h 14 (by decide))
    exact Yk.fieldAt A4 s ⟨Ext.refl _,rfl⟩
   ·refine Aa rfl fun σ w1 hC h=> ?_
    have t:=Ad (h 15 (by decide))
    exact Yk.cell1 Fs rfl t (Ac (eb hC hb) (show(AU (AD v b (i)))[1]? =some (NI i:Value)from BE (AD v b (i)))) ⟨Ext.refl _,rfl⟩
   ·refine Aa rfl fun σ w1 hC h=> ?_
    have u:=(Ad (h 1 (by decide))).trans l
    exact Yk.move u ⟨Ext.refl _,rfl⟩
   ·refine Aa rfl fun σ w1 hC h=> ?_
    have y:=Ad (h 12 (by decide))
    have z:=Ad (h 16 (by decide))
    have aa:=Ad (h 17 (by decide))
    refine Yk.callA3 E4 y z aa ?_
    refine((show Calls _ _ _ _ (fun e k=>e = .returned (.tuple #[St (([]:List UInt8)),NI 0,NI 6])∧Ext _ k)from(Ek _ v b (hr.keep (hE.trans hC)) i hi ((most:Nat):Int)).mono fun e k ⟨h1,h2⟩=>by subst h2;subst h1;refine⟨?_,Ext.refl _⟩;unfold BR;rw[hd];simp only;rfl)).mono ?_
    rintro e k ⟨rfl,hx⟩
    exact⟨_,rfl,hx,rfl⟩
   ·refine Aa rfl fun σ w1 hC h=> ?_
    have ab:=Ad (h 18 (by decide))
    exact Yk.move ab ⟨Ext.refl _,rfl⟩
   ·refine Aa rfl fun σ w1 hC h=> ?_
    have f:=Ad (h 8 (by decide))
    exact Yk.extract (vs:= [St (([]:List UInt8)),NI 0,NI 6]) f (show _=some (St (([]:List UInt8)):Value)from rfl) ⟨Ext.refl _,rfl⟩
   ·refine Aa rfl fun σ w1 hC h=> ?_
    have f:=Ad (h 8 (by decide))
    exact Yk.extract (vs:= [St (([]:List UInt8)),NI 0,NI 6]) f (show _=some (NI 0:Value)from rfl) ⟨Ext.refl _,rfl⟩
   ·refine Aa rfl fun σ w1 hC h=> ?_
    have f:=Ad (h 8 (by decide))
    exact Yk.extract (vs:= [St (([]:List UInt8)),NI 0,NI 6]) f (show _=some (NI 6:Value)from rfl) ⟨Ext.refl _,rfl⟩
   ·refine Aa rfl fun σ w1 hC h=> ?_
    have ac:=Ad (h 19 (by decide))
    exact Yk.assign ac ⟨Ext.refl _,rfl⟩
   ·refine Aa rfl fun σ w1 hC h=> ?_
    have ad:=Ad (h 20 (by decide))
    exact Yk.assign ad ⟨Ext.refl _,rfl⟩
   ·refine Aa rfl fun σ w1 hC h=> ?_
    have ae:=Ad (h 21 (by decide))
    exact Yk.assign ae ⟨Ext.refl _,rfl⟩
  intro ak w4 al he hf
  obtain⟨-,-,-,-,-,-,-,-,-,-,-,-,-,-,k5,k6,k7,-⟩:=hf
  obtain⟨g,l,T4,-⟩:=he.hold [(0,_),(1,_),(4,St (([]:List UInt8)))] ⟨g,l,rfl,trivial⟩ rfl
  clear he
  have hb:=eb al hb
  have hgr:w.grownBy w4 (some r):=An hgr al.grown (fun _ e=>by cases e)
  have hE:=hE.trans al
  have T5:ak 5=St (([]:List UInt8)):=k5
  have T6:ak 6=NI 0:=k6
  have T7:ak 7=NI 6:=k7
  clear k5 k6 k7
  refine tN (a8 _ _ (sk fun K6 bb=>(wt (oM rfl (oS rfl (Yk.eqI (a:=(6:Nat)) (b:=(0:Nat)) T7 rfl (k_eql _ _ _ _) (oP rfl (Yp.callA1 Cr (vr (.bool (decide ((6:Nat)=(0)))) rfl) ?_))))))))
  refine Ar (AQ _ (decide ((6:Nat)=(0)))) ?_ ?_
  rotate_left
  ·
   rintro ch w9 ⟨rfl,hb,hx⟩
   refine Aq (postP_panic ?_)
   have hno:=of_decide_eq_false hb
   exact .inr ⟨_,rfl,hP,rfl,(An hgr hx.grown (fun _ e=>by cases e))⟩
  rintro v_ bc ⟨rfl,bd,an⟩
  have hb:=eb an hb
  have hgr:w.grownBy bc (some r):=An hgr an.grown (fun _ e=>by cases e)
  have hE:=hE.trans an
  have ce:=of_decide_eq_true bd
  refine oZ (tN (bb _ _ (sk fun cf be=>(wt (oM rfl (oM rfl (oS rfl (Yk.nilCheck g (oS rfl (Yk.fieldAt A4 (vr (PQ r 0) rfl) (oS rfl (Yk.storeC (i:=1) (v:=NI 0) (vr (PQ r 1) rfl) T6 hb (by rw[DH];decide) C1 rfl rfl fun ay az bf cg=> ?_))))))))))))
  clear hb
  have hgr:w.grownBy ay (some r):=An hgr bf (fun _ e=> .inl e)
  clear hE
  have hb:ay.heap[r]? =some (.cells (AU ((⟨b,((0:Nat):Int)⟩,⟨v⟩):Dp)).toArray 111 (0,0)):=Bf az (Eh (AD v b (i)) ((0:Nat):Int));clear az
  have ci:=bl hb
  refine oZ (tN (be _ _ (sk fun cj bg=>(wt (oM rfl (oA rfl (oZ (tN (bg _ _ (Ap (Br (fn:=Tryd.f113) _ rfl [St (([]:List UInt8))] (St (([]:List UInt8))) rfl ⟨T5,trivial⟩ ?_)))))))))))
  omega
 by_cases hm:most<xn
 ·have hP:CI b i most=none:=by unfold CI;rw[hd];exact if_pos hm
  refine tN (ai _ _ (sk fun ck bh=> ?_))
  refine Bi [Is (PQ r 0),Is (PQ r 0),Is (PQ r 0),Is (v),Is (PQ r 0),Is (PQ r 0),Is (PQ r 1),Is (NI i),Is (NI most),Is (.tuple #[St (([]:List UInt8)),NI 0,NI 2]),Is (.tuple #[St (([]:List UInt8)),NI 0,NI 2]),Is (St (([]:List UInt8))),Is (NI 0),Is (NI 2),Is (St (([]:List UInt8))),Is (NI 0),Is (NI 2)] (by kernel_rfl) [9,10,11,12,13,14,15,16,17,18,8,19,20,21,5,6,7] (by kernel_rfl) (by kernel_rfl) (Jn (Cc trivial)) ?bi ?hQ2001
  case bi=>
   refine⟨?_,?_,?_,?_,?_,?_,?_,?_,?_,?_,?_,?_,?_,?_,?_,?_,?_,trivial⟩
   ·refine Aa rfl fun σ w1 hC h=> ?_
    have j:=(Ad (h 0 (by decide))).trans g
    exact Yk.move j ⟨Ext.refl _,rfl⟩
   ·refine Aa rfl fun σ w1 hC h=> ?_
    have m:=Ad (h 9 (by decide))
    exact Yk.nilCheck m ⟨Ext.refl _,rfl⟩
   ·refine Aa rfl fun σ w1 hC h=> ?_
    have o:=Ad (h 10 (by decide))
    exact Yk.fieldAt BY o ⟨Ext.refl _,rfl⟩
   ·refine Aa rfl fun σ w1 hC h=> ?_
    have p:=Ad (h 11 (by decide))
    exact Yk.cell1 Ff rfl p (Ac (eb hC hb) (show(AU (AD v b (i)))[0]? =some (v:Value)from BP (AD v b (i)))) ⟨Ext.refl _,rfl⟩
   ·refine Aa rfl fun σ w1 hC h=> ?_
    have j:=(Ad (h 0 (by decide))).trans g
    exact Yk.move j ⟨Ext.refl _,rfl⟩
   ·refine Aa rfl fun σ w1 hC h=> ?_
    have q:=Ad (h 13 (by decide))
    exact Yk.nilCheck q ⟨Ext.refl _,rfl⟩
   ·refine Aa rfl fun σ w1 hC h=> ?_
    have s:=Ad (h 14 (by decide))
    exact Yk.fieldAt A4 s ⟨Ext.refl _,rfl⟩
   ·refine Aa rfl fun σ w1 hC h=> ?_
    have t:=Ad (h 15 (by decide))
    exact Yk.cell1 Fs rfl t (Ac (eb hC hb) (show(AU (AD v b (i)))[1]? =some (NI i:Value)from BE (AD v b (i)))) ⟨Ext.refl _,rfl⟩
   ·refine Aa rfl fun σ w1 hC h=> ?_
    have u:=(Ad (h 1 (by decide))).trans l
    exact Yk.move u ⟨Ext.refl _,rfl⟩
   ·refine Aa rfl fun σ w1 hC h=> ?_
    have y:=Ad (h 12 (by decide))
    have z:=Ad (h 16 (by decide))
    have aa:=Ad (h 17 (by decide))
    refine Yk.callA3 E4 y z aa ?_
    refine((show Calls _ _ _ _ (fun e k=>e = .returned (.tuple #[St (([]:List UInt8)),NI 0,NI 2])∧Ext _ k)from(Ek _ v b (hr.keep (hE.trans hC)) i hi ((most:Nat):Int)).mono fun e k ⟨h1,h2⟩=>by subst h2;subst h1;refine⟨?_,Ext.refl _⟩;unfold BR;rw[hd];simp only;rw[if_pos (by omega)];rfl)).mono ?_
    rintro e k ⟨rfl,hx⟩
    exact⟨_,rfl,hx,rfl⟩
   ·refine Aa rfl fun σ w1 hC h=> ?_
    have ab:=Ad (h 18 (by decide))
    exact Yk.move ab ⟨Ext.refl _,rfl⟩
   ·refine Aa rfl fun σ w1 hC h=> ?_
    have f:=Ad (h 8 (by decide))
    exact Yk.extract (vs:= [St (([]:List UInt8)),NI 0,NI 2]) f (show _=some (St (([]:List UInt8)):Value)from rfl) ⟨Ext.refl _,rfl⟩
   ·refine Aa rfl fun σ w1 hC h=> ?_
    have f:=Ad (h 8 (by decide))
    exact Yk.extract (vs:= [St (([]:List UInt8)),NI 0,NI 2]) f (show _=some (NI 0:Value)from rfl) ⟨Ext.refl _,rfl⟩
   ·refine Aa rfl fun σ w1 hC h=> ?_
    have f:=Ad (h 8 (by decide))
    exact Yk.extract (vs:= [St (([]:List UInt8)),NI 0,NI 2]) f (show _=some (NI 2:Value)from rfl) ⟨Ext.refl _,rfl⟩
   ·refine Aa rfl fun σ w1 hC h=> ?_
    have ac:=Ad (h 19 (by decide))
    exact Yk.assign ac ⟨Ext.refl _,rfl⟩
   ·refine Aa rfl fun σ w1 hC h=> ?_
    have ad:=Ad (h 20 (by decide))
    exact Yk.assign ad ⟨Ext.refl _,rfl⟩
   ·refine Aa rfl fun σ w1 hC h=> ?_
    have ae:=Ad (h 21 (by decide))
    exact Yk.assign ae ⟨Ext.refl _,rfl⟩
  intro ao bj ap he hf
  obtain⟨-,-,-,-,-,-,-,-,-,-,-,-,-,-,k5,k6,k7,-⟩:=hf
  obtain⟨g,l,T4,-⟩:=he.hold [(0,_),(1,_),(4,St (([]:List UInt8)))] ⟨g,l,rfl,trivial⟩ rfl
  clear he
  have hb:=eb ap hb
  have hgr:w.grownBy bj (some r):=An hgr ap.grown (fun _ e=>by cases e)
  have hE:=hE.trans ap
  have T5:ao 5=St (([]:List UInt8)):=k5
  have T6:ao 6=NI 0:=k6
  have T7:ao 7=NI 2:=k7
  clear k5 k6 k7
  refine tN (bh _ _ (sk fun cl bk=>(wt (oM rfl (oS rfl (Yk.eqI (a:=(2:Nat)) (b:=(0:Nat)) T7 rfl (k_eql _ _ _ _) (oP rfl (Yp.callA1 Cr (vr (.bool (decide ((2:Nat)=(0)))) rfl) ?_))))))))
  refine Ar (AQ _ (decide ((2:Nat)=(0)))) ?_ ?_
  rotate_left
  ·
   rintro ch cm ⟨rfl,hb,hx⟩
   refine Aq (postP_panic ?_)
   have hno:=of_decide_eq_false hb
   exact .inr ⟨_,rfl,hP,rfl,(An hgr hx.grown (fun _ e=>by cases e))⟩
  rintro v_ bm ⟨rfl,bn,aq⟩
  have hb:=eb aq hb
  have hgr:w.grownBy bm (some r):=An hgr aq.grown (fun _ e=>by cases e)
  have hE:=hE.trans aq
  have cn:=of_decide_eq_true bn
  refine oZ (tN (bk _ _ (sk fun co bo=>(wt (oM rfl (oM rfl (oS rfl (Yk.nilCheck g (oS rfl (Yk.fieldAt A4 (vr (PQ r 0) rfl) (oS rfl (Yk.storeC (i:=1) (v:=NI 0) (vr (PQ r 1) rfl) T6 hb (by rw[DH];decide) C1 rfl rfl fun a0 a1 bp cp=> ?_))))))))))))
  clear hb
  have hgr:w.grownBy a0 (some r):=An hgr bp (fun _ e=> .inl e)
  clear hE
  have hb:a0.heap[r]? =some (.cells (AU ((⟨b,((0:Nat):Int)⟩,⟨v⟩):Dp)).toArray 111 (0,0)):=Bf a1 (Eh (AD v b (i)) ((0:Nat):Int));clear a1
  have cq:=bl hb
  refine oZ (tN (bo _ _ (sk fun cr bq=>(wt (oM rfl (oA rfl (oZ (tN (bq _ _ (Ap (Br (fn:=Tryd.f113) _ rfl [St (([]:List UInt8))] (St (([]:List UInt8))) rfl ⟨T5,trivial⟩ ?_)))))))))))
  omega
 by_cases aj:b.length<i+xk+xn
 ·have hP:CI b i most=none:=by unfold CI;rw[hd];exact(if_neg hm).trans (if_pos aj)
  refine tN (ai _ _ (sk fun cs br=> ?_))
  refine Bi [Is (PQ r 0),Is (PQ r 0),Is (PQ r 0),Is (v),Is (PQ r 0),Is (PQ r 0),Is (PQ r 1),Is (NI i),Is (NI most),Is (.tuple #[St (([]:List UInt8)),NI 0,NI 6]),Is (.tuple #[St (([]:List UInt8)),NI 0,NI 6]),Is (St (([]:List UInt8))),Is (NI 0),Is (NI 6),Is (St (([]:List UInt8))),Is (NI 0),Is (NI 6)] (by kernel_rfl) [9,10,11,12,13,14,15,16,17,18,8,19,20,21,5,6,7] (by kernel_rfl) (by kernel_rfl) (Jn (Cc trivial)) ?bs ?hQ3001
  case bs=>
   refine⟨?_,?_,?_,?_,?_,?_,?_,?_,?_,?_,?_,?_,?_,?_,?_,?_,?_,trivial⟩
   ·refine Aa rfl fun σ w1 hC h=> ?_
    have j:=(Ad (h 0 (by decide))).trans g
    exact Yk.move j ⟨Ext.refl _,rfl⟩
   ·refine Aa rfl fun σ w1 hC h=> ?_
    have m:=Ad (h 9 (by decide))
    exact Yk.nilCheck m ⟨Ext.refl _,rfl⟩
   ·refine Aa rfl fun σ w1 hC h=> ?_
    have o:=Ad (h 10 (by decide))
    exact Yk.fieldAt BY o ⟨Ext.refl _,rfl⟩
   ·refine Aa rfl fun σ w1 hC h=> ?_
    have p:=Ad (h 11 (by decide))
    exact Yk.cell1 Ff rfl p (Ac (eb hC hb) (show(AU (AD v b (i)))[0]? =some (v:Value)from BP (AD v b (i)))) ⟨Ext.refl _,rfl⟩
   ·refine Aa rfl fun σ w1 hC h=> ?_
    have j:=(Ad (h 0 (by decide))).trans g
    exact Yk.move j ⟨Ext.refl _,rfl⟩
   ·refine Aa rfl fun σ w1 hC h=> ?_
    have q:=Ad (h 13 (by decide))
    exact Yk.nilCheck q ⟨Ext.refl _,rfl⟩
   ·refine Aa rfl fun σ w1 hC h=> ?_
    have s:=Ad (h 14 (by decide))
    exact Yk.fieldAt A4 s ⟨Ext.refl _,rfl⟩
   ·refine Aa rfl fun σ w1 hC h=> ?_
    have t:=Ad (h 15 (by decide))
    exact Yk.cell1 Fs rfl t (Ac (eb hC hb) (show(AU (AD v b (i)))[1]? =some (NI i:Value)from BE (AD v b (i)))) ⟨Ext.refl _,rfl⟩
   ·refine Aa rfl fun σ w1 hC h=> ?_
    have u:=(Ad (h 1 (by decide))).trans l
    exact Yk.move u ⟨Ext.refl _,rfl⟩
   ·refine Aa rfl fun σ w1 hC h=> ?_
    have y:=Ad (h 12 (by decide))
    have z:=Ad (h 16 (by decide))
    have aa:=Ad (h 17 (by decide))
    refine Yk.callA3 E4 y z aa ?_
    refine((show Calls _ _ _ _ (fun e k=>e = .returned (.tuple #[St (([]:List UInt8)),NI 0,NI 6])∧Ext _ k)from(Ek _ v b (hr.keep (hE.trans hC)) i hi ((most:Nat):Int)).mono fun e k ⟨h1,h2⟩=>by subst h2;subst h1;refine⟨?_,Ext.refl _⟩;unfold BR;rw[hd];simp only;rw[if_neg (by omega),if_pos aj];rfl)).mono ?_
    rintro e k ⟨rfl,hx⟩
    exact⟨_,rfl,hx,rfl⟩
   ·refine Aa rfl fun σ w1 hC h=> ?_
    have ab:=Ad (h 18 (by decide))
    exact Yk.move ab ⟨Ext.refl _,rfl⟩
   ·refine Aa rfl fun σ w1 hC h=> ?_
    have f:=Ad (h 8 (by decide))
    exact Yk.extract (vs:= [St (([]:List UInt8)),NI 0,NI 6]) f (show _=some (St (([]:List UInt8)):Value)from rfl) ⟨Ext.refl _,rfl⟩
   ·refine Aa rfl fun σ w1 hC h=> ?_
    have f:=Ad (h 8 (by decide))
    exact Yk.extract (vs:= [St (([]:List UInt8)),NI 0,NI 6]) f (show _=some (NI 0:Value)from rfl) ⟨Ext.refl _,rfl⟩
   ·refine Aa rfl fun σ w1 hC h=> ?_
    have f:=Ad (h 8 (by decide))
    exact Yk.extract (vs:= [St (([]:List UInt8)),NI 0,NI 6]) f (show _=some (NI 6:Value)from rfl) ⟨Ext.refl _,rfl⟩
   ·refine Aa rfl fun σ w1 hC h=> ?_
    have ac:=Ad (h 19 (by decide))
    exact Yk.assign ac ⟨Ext.refl _,rfl⟩
   ·refine Aa rfl fun σ w1 hC h=> ?_
    have ad:=Ad (h 20 (by decide))
    exact Yk.assign ad ⟨Ext.refl _,rfl⟩
   ·refine Aa rfl fun σ w1 hC h=> ?_
    have ae:=Ad (h 21 (by decide))
    exact Yk.assign ae ⟨Ext.refl _,rfl⟩
  intro ar bt au he hf
  obtain⟨-,-,-,-,-,-,-,-,-,-,-,-,-,-,k5,k6,k7,-⟩:=hf
  obtain⟨g,l,T4,-⟩:=he.hold [(0,_),(1,_),(4,St (([]:List UInt8)))] ⟨g,l,rfl,trivial⟩ rfl
  clear he
  have hb:=eb au hb
  have hgr:w.grownBy bt (some r):=An hgr au.grown (fun _ e=>by cases e)
  have hE:=hE.trans au
  have T5:ar 5=St (([]:List UInt8)):=k5
  have T6:ar 6=NI 0:=k6
  have T7:ar 7=NI 6:=k7
  clear k5 k6 k7
  refine tN (br _ _ (sk fun ct bu=>(wt (oM rfl (oS rfl (Yk.eqI (a:=(6:Nat)) (b:=(0:Nat)) T7 rfl (k_eql _ _ _ _) (oP rfl (Yp.callA1 Cr (vr (.bool (decide ((6:Nat)=(0)))) rfl) ?_))))))))
  refine Ar (AQ _ (decide ((6:Nat)=(0)))) ?_ ?_
  rotate_left
  ·
   rintro ch cu ⟨rfl,hb,hx⟩
   refine Aq (postP_panic ?_)
   have hno:=of_decide_eq_false hb
   exact .inr ⟨_,rfl,hP,rfl,(An hgr hx.grown (fun _ e=>by cases e))⟩
  rintro v_ bv ⟨rfl,bw,av⟩
  have hb:=eb av hb
  have hgr:w.grownBy bv (some r):=An hgr av.grown (fun _ e=>by cases e)
  have hE:=hE.trans av
  have cv:=of_decide_eq_true bw
  refine oZ (tN (bu _ _ (sk fun cw bx=>(wt (oM rfl (oM rfl (oS rfl (Yk.nilCheck g (oS rfl (Yk.fieldAt A4 (vr (PQ r 0) rfl) (oS rfl (Yk.storeC (i:=1) (v:=NI 0) (vr (PQ r 1) rfl) T6 hb (by rw[DH];decide) C1 rfl rfl fun a2 a3 bz cx=> ?_))))))))))))
  clear hb
  have hgr:w.grownBy a2 (some r):=An hgr bz (fun _ e=> .inl e)
  clear hE
  have hb:a2.heap[r]? =some (.cells (AU ((⟨b,((0:Nat):Int)⟩,⟨v⟩):Dp)).toArray 111 (0,0)):=Bf a3 (Eh (AD v b (i)) ((0:Nat):Int));clear a3
  have cy:=bl hb
  refine oZ (tN (bx _ _ (sk fun cz b0=>(wt (oM rfl (oA rfl (oZ (tN (b0 _ _ (Ap (Br (fn:=Tryd.f113) _ rfl [St (([]:List UInt8))] (St (([]:List UInt8))) rfl ⟨T5,trivial⟩ ?_)))))))))))
  omega
 have hP:CI b i most=some ((b.drop (i+xk)).take xn,i+xk+xn):=by unfold CI;rw[hd];exact(if_neg hm).trans (if_neg aj)
 refine tN (ai _ _ (sk fun c0 b1=> ?_))
 refine Bi [Is (PQ r 0),Is (PQ r 0),Is (PQ r 0),Is (v),Is (PQ r 0),Is (PQ r 0),Is (PQ r 1),Is (NI i),Is (NI most),Is (.tuple #[St (((b.drop (i+xk)).take xn)),NI (i+xk+xn),NI 0]),Is (.tuple #[St (((b.drop (i+xk)).take xn)),NI (i+xk+xn),NI 0]),Is (St (((b.drop (i+xk)).take xn))),Is (NI (i+xk+xn)),Is (NI 0),Is (St (((b.drop (i+xk)).take xn))),Is (NI (i+xk+xn)),Is (NI 0)] (by kernel_rfl) [9,10,11,12,13,14,15,16,17,18,8,19,20,21,5,6,7] (by kernel_rfl) (by kernel_rfl) (Jn (Cc trivial)) ?b2 ?hQ4001
 case b2=>
  refine⟨?_,?_,?_,?_,?_,?_,?_,?_,?_,?_,?_,?_,?_,?_,?_,?_,?_,trivial⟩
  ·refine Aa rfl fun σ w1 hC h=> ?_
   have j:=(Ad (h 0 (by decide))).trans g
   exact Yk.move j ⟨Ext.refl _,rfl⟩
  ·refine Aa rfl fun σ w1 hC h=> ?_
   have m:=Ad (h 9 (by decide))
   exact Yk.nilCheck m ⟨Ext.refl _,rfl⟩
  ·refine Aa rfl fun σ w1 hC h=> ?_
   have o:=Ad (h 10 (by decide))
   exact Yk.fieldAt BY o ⟨Ext.refl _,rfl⟩
  ·refine Aa rfl fun σ w1 hC h=> ?_
   have p:=Ad (h 11 (by decide))
   exact Yk.cell1 Ff rfl p (Ac (eb hC hb) (show(AU (AD v b (i)))[0]? =some (v:Value)from BP (AD v b (i)))) ⟨Ext.refl _,rfl⟩
  ·refine Aa rfl fun σ w1 hC h=> ?_
   have j:=(Ad (h 0 (by decide))).trans g
   exact Yk.move j ⟨Ext.refl _,rfl⟩
  ·refine Aa rfl fun σ w1 hC h=> ?_
   have q:=Ad (h 13 (by decide))
   exact Yk.nilCheck q ⟨Ext.refl _,rfl⟩
  ·refine Aa rfl fun σ w1 hC h=> ?_
   have s:=Ad (h 14 (by decide))
   exact Yk.fieldAt A4 s ⟨Ext.refl _,rfl⟩
  ·refine Aa rfl fun σ w1 hC h=> ?_
   have t:=Ad (h 15 (by decide))
   exact Yk.cell1 Fs rfl t (Ac (eb hC hb) (show(AU (AD v b (i)))[1]? =some (NI i:Value)from BE (AD v b (i)))) ⟨Ext.refl _,rfl⟩
  ·refine Aa rfl fun σ w1 hC h=> ?_
   have u:=(Ad (h 1 (by decide))).trans l
   exact Yk.move u ⟨Ext.refl _,rfl⟩
  ·refine Aa rfl fun σ w1 hC h=> ?_
   have y:=Ad (h 12 (by decide))
   have z:=Ad (h 16 (by decide))
   have aa:=Ad (h 17 (by decide))
   refine Yk.callA3 E4 y z aa ?_
   refine((show Calls _ _ _ _ (fun e k=>e = .returned (.tuple #[St (((b.drop (i+xk)).take xn)),NI (i+xk+xn),NI 0])∧Ext _ k)from(Ek _ v b (hr.keep (hE.trans hC)) i hi ((most:Nat):Int)).mono fun e k ⟨h1,h2⟩=>by subst h2;subst h1;refine⟨?_,Ext.refl _⟩;unfold BR;rw[hd];simp only;rw[if_neg (by omega),if_neg aj];rfl)).mono ?_
   rintro e k ⟨rfl,hx⟩
   exact⟨_,rfl,hx,rfl⟩
  ·refine Aa rfl fun σ w1 hC h=> ?_
   have ab:=Ad (h 18 (by decide))
   exact Yk.move ab ⟨Ext.refl _,rfl⟩
  ·refine Aa rfl fun σ w1 hC h=> ?_
   have f:=Ad (h 8 (by decide))
   exact Yk.extract (vs:= [St (((b.drop (i+xk)).take xn)),NI (i+xk+xn),NI 0]) f (show _=some (St (((b.drop (i+xk)).take xn)):Value)from rfl) ⟨Ext.refl _,rfl⟩
  ·refine Aa rfl fun σ w1 hC h=> ?_
   have f:=Ad (h 8 (by decide))
   exact Yk.extract (vs:= [St (((b.drop (i+xk)).take xn)),NI (i+xk+xn),NI 0]) f (show _=some (NI (i+xk+xn):Value)from rfl) ⟨Ext.refl _,rfl⟩
  ·refine Aa rfl fun σ w1 hC h=> ?_
   have f:=Ad (h 8 (by decide))
   exact Yk.extract (vs:= [St (((b.drop (i+xk)).take xn)),NI (i+xk+xn),NI 0]) f (show _=some (NI 0:Value)from rfl) ⟨Ext.refl _,rfl⟩
  ·refine Aa rfl fun σ w1 hC h=> ?_
   have ac:=Ad (h 19 (by decide))
   exact Yk.assign ac ⟨Ext.refl _,rfl⟩
  ·refine Aa rfl fun σ w1 hC h=> ?_
   have ad:=Ad (h 20 (by decide))
   exact Yk.assign ad ⟨Ext.refl _,rfl⟩
  ·refine Aa rfl fun σ w1 hC h=> ?_
   have ae:=Ad (h 21 (by decide))
   exact Yk.assign ae ⟨Ext.refl _,rfl⟩
 intro aw b3 a4 he hf
 obtain⟨-,-,-,-,-,-,-,-,-,-,-,-,-,-,k5,k6,k7,-⟩:=hf
 obtain⟨g,l,T4,-⟩:=he.hold [(0,_),(1,_),(4,St (([]:List UInt8)))] ⟨g,l,rfl,trivial⟩ rfl
 clear he
 have hb:=eb a4 hb
 have hgr:w.grownBy b3 (some r):=An hgr a4.grown (fun _ e=>by cases e)
 have T5:aw 5=St (((b.drop (i+xk)).take xn)):=k5
 have T6:aw 6=NI (i+xk+xn):=k6
 have T7:aw 7=NI 0:=k7
 clear k5 k6 k7
 refine tN (b1 _ _ (sk fun c1 b4=>(wt (oM rfl (oS rfl (Yk.eqI (a:=(0:Nat)) (b:=(0:Nat)) T7 rfl (k_eql _ _ _ _) (oP rfl (Yp.callA1 Cr (vr (.bool (decide ((0:Nat)=(0)))) rfl) ?_))))))))
 refine Ar (AQ _ (decide ((0:Nat)=(0)))) ?_ ?_
 rotate_left
 ·
  rintro ch c2 ⟨rfl,hb,hx⟩
  refine Aq (postP_panic ?_)
  have hno:=of_decide_eq_false hb
  exact absurd rfl hno
 rintro v_ b5 ⟨rfl,b6,a5⟩
 have hb:=eb a5 hb
 have hgr:w.grownBy b5 (some r):=An hgr a5.grown (fun _ e=>by cases e)
 have c3:=of_decide_eq_true b6
 refine oZ (tN (b4 _ _ (sk fun c4 b7=>(wt (oM rfl (oM rfl (oS rfl (Yk.nilCheck g (oS rfl (Yk.fieldAt A4 (vr (PQ r 0) rfl) (oS rfl (Yk.storeC (i:=1) (v:=NI (i+xk+xn)) (vr (PQ r 1) rfl) T6 hb (by rw[DH];decide) C1 rfl rfl fun a6 a7 b8 c5=> ?_))))))))))))
 clear hb
 have hgr:w.grownBy a6 (some r):=An hgr b8 (fun _ e=> .inl e)
 clear hE
 have hb:a6.heap[r]? =some (.cells (AU ((⟨b,((i+xk+xn:Nat):Int)⟩,⟨v⟩):Dp)).toArray 111 (0,0)):=Bf a7 (Eh (AD v b (i)) ((i+xk+xn:Nat):Int));clear a7
 have c6:=bl hb
 refine oZ (tN (b7 _ _ (sk fun c7 b9=>(wt (oM rfl (oA rfl (oZ (tN (b9 _ _ (Ap (Br (fn:=Tryd.f113) _ rfl [St (((b.drop (i+xk)).take xn))] (St (((b.drop (i+xk)).take xn))) rfl ⟨T5,trivial⟩ ?_)))))))))))
 exact .inl ⟨_,rfl,_,_,hP,rfl,hb,hgr⟩

theorem DV(w:World)(r:Nat)(v:Value)(b:Bs)(i:Nat)(hb:w.heap[r]? =some (.cells (AU (AD v b (i))).toArray 111 (0,0)))(hr:RB w v b)(hap:b= []∨OB v r)(hi:i≤b.length)(hl:b.length≤4611686018427387904):
  Calls Tryd.prog 114 #[PQ r 0] w fun e w' =>(∃x,e = .returned x∧∃c n,C7 b i=some (c,n)∧x=AB c.1∧w'.heap[r]? =some (.cells (AU (AD v b (n))).toArray 111 (0,0))∧w.grownBy w' (some r))∨∃ch,e = .panicked ch∧C7 b i=none∧ch= [BB]∧w.grownBy w' (some r):=by
 have hlr:=(bl hb)
 have hgr:=World.grownBy.refl w (some r)
 refine Bt (args:= [PQ r 0]) Tryd.func114 rfl 27 rfl (Nat.le_of_ble_eq_true rfl) ?_
 intro a8 hb
 have p:a8 0=(PQ r 0:Value):=hb.get 0
 clear hb
 have hE:=Ext.refl w
 refine sk fun K1 ap=>(wt (oS rfl (Yk.alloc (cs:=(Lib.byteCells (List.replicate 32 0)).toArray) G8 fun q m a9 aq ak b2=> ?_)))
 have b3:=Bn (bl hb) a9
 have hb:=eb ak hb
 have hgr:w.grownBy m (some r):=An hgr ak.grown (fun _ e=>by cases e)
 have hE:=hE.trans ak
 have f:=aq;clear aq
 have b4:q<m.heap.size:=by omega
 refine oZ ?_
 by_cases hle:i+32≤b.length
 ·have hQ:((b.drop i).take 32).length=32:=by rw[List.length_take,List.length_drop];omega
  have hP:C7 b i=some (⟨(b.drop i).take 32,hQ⟩,i+32):=dif_pos hle
  refine tN (ap _ _ (sk fun b5 ba=> ?_))
  have ab:Ext m (World.drew m):=(Below.refl _ _).drew
  have hb:=eb ab hb
  have hgr:w.grownBy (World.drew m) (some r):=An hgr ab.grown (fun _ e=>by cases e)
  have hE:=hE.trans ab
  have f:=eb ab f
  refine Em [(0,7,PQ r 0),(1,8,PQ r 0),(2,9,PQ r 0),(3,10,v),(4,11,PQ r 0),(5,12,PQ r 0),(6,13,PQ r 1),(7,14,NI i),(8,15, .tuple #[AB ((b.drop i).take 32),NI (i+32),NI 0]),(9,6, .tuple #[AB ((b.drop i).take 32),NI (i+32),NI 0]),(10,16,AB ((b.drop i).take 32)),(11,17,NI (i+32)),(12,18,NI 0)] [13,14,15,16] (fun wz=>wz.heap[r]? =some (.cells (AU (AD v b (i))).toArray 111 (0,0))∧Ext w wz∧wz.heap[q]? =some (.cells (Lib.byteCells (List.replicate 32 0)).toArray 25 (0,0))∧True) (fun _ _ ⟨hb,hE,f,_⟩ k=>⟨(eb k hb),(hE.trans k),(eb k f),trivial⟩) (by kernel_rfl) (by kernel_rfl) (by kernel_rfl) ⟨hb,hE,f,trivial⟩ ⟨fun j ⟨hb,hE,f,_⟩=>Yk.move p ⟨rfl,Ext.refl _⟩,fun j ⟨hb,hE,f,_⟩=>Yk.nilCheck (vr (PQ r 0) rfl) ⟨rfl,Ext.refl _⟩,fun j ⟨hb,hE,f,_⟩=>Yk.fieldAt BY (vr (PQ r 0) rfl) ⟨rfl,Ext.refl _⟩,fun j ⟨hb,hE,f,_⟩=>Yk.cell1 Ff rfl (vr (PQ r 0) rfl) (Ac hb (show(AU (AD v b (i)))[0]? =some (v:Value)from BP (AD v b (i)))) ⟨rfl,Ext.refl _⟩,fun j ⟨hb,hE,f,_⟩=>Yk.move p ⟨rfl,Ext.refl _⟩,fun j ⟨hb,hE,f,_⟩=>Yk.nilCheck (vr (PQ r 0) rfl) ⟨rfl,Ext.refl _⟩,fun j ⟨hb,hE,f,_⟩=>Yk.fieldAt A4 (vr (PQ r 0) rfl) ⟨rfl,Ext.refl _⟩,fun j ⟨hb,hE,f,_⟩=>Yk.cell1 Fs rfl (vr (PQ r 1) rfl) (Ac hb (show(AU (AD v b (i)))[1]? =some (NI i:Value)from BE (AD v b (i)))) ⟨rfl,Ext.refl _⟩,fun j ⟨hb,hE,f,_⟩=>Yk.callA2 IS (vr v rfl) (vr (NI i) rfl) (((show Calls _ _ _ _ (fun e o=>e = .returned (.tuple #[AB ((b.drop i).take 32),NI (i+32),NI 0])∧Ext _ o)from(JA _ v b (hr.keep hE) i hi).mono fun e o ⟨h1,h2⟩=>by subst h1;refine⟨?_,h2⟩;unfold Dw;rw[if_neg (by omega)];rfl)).mono (by rintro e o ⟨rfl,hx⟩;exact⟨_,rfl,rfl,hx⟩)),fun j ⟨hb,hE,f,_⟩=>Yk.move (vr (.tuple #[AB ((b.drop i).take 32),NI (i+32),NI 0]) rfl) ⟨rfl,Ext.refl _⟩,fun j ⟨hb,hE,f,_⟩=>Yk.extract (vs:= [AB ((b.drop i).take 32),NI (i+32),NI 0]) (vr (.tuple #[AB ((b.drop i).take 32),NI (i+32),NI 0]) rfl) (show _=some (AB ((b.drop i).take 32):Value)from rfl) ⟨rfl,Ext.refl _⟩,fun j ⟨hb,hE,f,_⟩=>Yk.extract (vs:= [AB ((b.drop i).take 32),NI (i+32),NI 0]) (vr (.tuple #[AB ((b.drop i).take 32),NI (i+32),NI 0]) rfl) (show _=some (NI (i+32):Value)from rfl) ⟨rfl,Ext.refl _⟩,fun j ⟨hb,hE,f,_⟩=>Yk.extract (vs:= [AB ((b.drop i).take 32),NI (i+32),NI 0]) (vr (.tuple #[AB ((b.drop i).take 32),NI (i+32),NI 0]) rfl) (show _=some (NI 0:Value)from rfl) ⟨rfl,Ext.refl _⟩,trivial⟩ ?_
  refine BU rfl fun bb ac=> ?_
  have hb:=eb ac hb
  have hgr:w.grownBy bb (some r):=An hgr ac.grown (fun _ e=>by cases e)
  have hE:=hE.trans ac
  have f:=eb ac f
  refine CD (Yk.alloc (cs:=(Lib.byteCells (List.replicate 32 0)).toArray) G8 fun al ar au av ad b6=> ?_)
  have bc:=hE.size
  have b7:=Bn (bl hb) au
  have b8:=Bn (bl f) au
  have hb:=eb ad hb
  have hgr:w.grownBy ar (some r):=An hgr ad.grown (fun _ e=>by cases e)
  have hE:=hE.trans ad
  have f:=eb ad f
  have g:=av;clear av
  have b9:al<ar.heap.size:=by omega
  refine⟨.inr ⟨hb,hE,f,trivial⟩,?_⟩
  refine BU rfl fun bd s=> ?_
  have hb:=eb s hb
  have hgr:w.grownBy bd (some r):=An hgr s.grown (fun _ e=>by cases e)
  have hE:=hE.trans s
  have f:=eb s f
  have g:=eb s g
  refine CD (Yk.storeAll (vr (PQ al 0) rfl) (vr (AB ((b.drop i).take 32)) rfl) g (by exact EJ hQ List.length_replicate) (by exact AH hQ) (AI _) fun be aw ae ca=> ?_)
  have hb:=kb ae hb (by omega)
  have hgr:w.grownBy be (some r):=An hgr ae (fun _ e=> .inr (by cases e;omega))
  have hE:=Ae hE ae (Nat.le_trans bc (by omega))
  have f:=kb ae f (by omega)
  clear g
  have g:=aw;clear aw
  have cb:=bl g
  refine⟨.inr ⟨hb,hE,f,trivial⟩,?_⟩
  refine BU rfl fun bf t=> ?_
  have hb:=eb t hb
  have hgr:w.grownBy bf (some r):=An hgr t.grown (fun _ e=>by cases e)
  have hE:=hE.trans t
  have f:=eb t f
  have g:=eb t g
  refine CD (Yk.assign (vr (NI (i+32)) rfl) ?_)
  refine⟨.inr ⟨hb,hE,f,trivial⟩,?_⟩
  refine BU rfl fun bg u=> ?_
  have hb:=eb u hb
  have hgr:w.grownBy bg (some r):=An hgr u.grown (fun _ e=>by cases e)
  have hE:=hE.trans u
  have f:=eb u f
  have g:=eb u g
  refine CD (Yk.assign (vr (NI 0) rfl) ?_)
  refine⟨.inl rfl,?_⟩
  refine GH (tN (ba _ _ (sk fun cc bh=>(wt (oM rfl (oS rfl (Yk.eqI (a:=(0:Nat)) (b:=(0:Nat)) rfl rfl (k_eql _ _ _ _) (oP rfl (Yp.callA1 Cr (vr (.bool (decide ((0:Nat)=(0)))) rfl) ?_)))))))))
  refine Ar (AQ _ (decide ((0:Nat)=(0)))) ?_ ?_
  rotate_left
  ·
   rintro ch cd ⟨rfl,hb,hx⟩
   refine Aq (postP_panic ?_)
   have hno:=of_decide_eq_false hb
   exact absurd rfl hno
  rintro v_ bi ⟨rfl,bj,y⟩
  have hb:=eb y hb
  have hgr:w.grownBy bi (some r):=An hgr y.grown (fun _ e=>by cases e)
  have hE:=hE.trans y
  have f:=eb y f
  have g:=eb y g
  have ce:=of_decide_eq_true bj
  refine oZ (tN (bh _ _ (sk fun cf bk=>(wt (oM rfl (oM rfl (oS rfl (Yk.nilCheck p (oS rfl (Yk.fieldAt A4 (vr (PQ r 0) rfl) (oS rfl (Yk.storeC (i:=1) (v:=NI (i+32)) (vr (PQ r 1) rfl) (vr (NI (i+32)) rfl) hb (by rw[DH];decide) C1 rfl rfl fun ax ay am cg=> ?_))))))))))))
  clear hb
  have hgr:w.grownBy ax (some r):=An hgr am (fun _ e=> .inl e)
  clear hE
  have f:=kb am f (by omega)
  have g:=kb am g (by omega)
  have hb:ax.heap[r]? =some (.cells (AU ((⟨b,((i+32:Nat):Int)⟩,⟨v⟩):Dp)).toArray 111 (0,0)):=Bf ay (Eh (AD v b (i)) ((i+32:Nat):Int));clear ay
  have ci:=bl hb
  refine oZ (tN (bk _ _ (sk fun cj bm=>(wt (oS rfl (Yk.loadAll (vr (PQ al 0) rfl) g OA rfl (by exact AH hQ) (oS rfl (Yk.storeAll (vr (PQ q 0) rfl) (vr (AB ((b.drop i).take 32)) rfl) f (by exact EJ hQ List.length_replicate) (by exact AH hQ) (AI _) fun bn az a0 ck=> ?_))))))))
  have hgr:w.grownBy bn (some r):=An hgr a0 (fun _ e=> .inr (by cases e;omega))
  clear f
  have hb:=kb a0 hb (by omega)
  have f:=az;clear az
  have cl:=bl f
  refine oZ (tN (bm _ _ (Ap (Br (fn:=Tryd.f114) _ rfl [AB ((b.drop i).take 32)] (AB ((b.drop i).take 32)) rfl ⟨ResF.row rfl f OA rfl (by exact AH hQ),trivial⟩ ?_))))
  exact .inl ⟨_,rfl,_,_,hP,rfl,hb,hgr⟩
 have hP:C7 b i=none:=dif_neg hle
 refine tN (ap _ _ (sk fun cm bo=> ?_))
 have af:Ext m (World.drew m):=(Below.refl _ _).drew
 have hb:=eb af hb
 have hgr:w.grownBy (World.drew m) (some r):=An hgr af.grown (fun _ e=>by cases e)
 have hE:=hE.trans af
 have f:=eb af f
 refine Em [(0,7,PQ r 0),(1,8,PQ r 0),(2,9,PQ r 0),(3,10,v),(4,11,PQ r 0),(5,12,PQ r 0),(6,13,PQ r 1),(7,14,NI i),(8,15, .tuple #[AB zero32,NI 0,NI 6]),(9,6, .tuple #[AB zero32,NI 0,NI 6]),(10,16,AB zero32),(11,17,NI 0),(12,18,NI 6)] [13,14,15,16] (fun wz=>wz.heap[r]? =some (.cells (AU (AD v b (i))).toArray 111 (0,0))∧Ext w wz∧wz.heap[q]? =some (.cells (Lib.byteCells (List.replicate 32 0)).toArray 25 (0,0))∧True) (fun _ _ ⟨hb,hE,f,_⟩ k=>⟨(eb k hb),(hE.trans k),(eb k f),trivial⟩) (by kernel_rfl) (by kernel_rfl) (by kernel_rfl) ⟨hb,hE,f,trivial⟩ ⟨fun l ⟨hb,hE,f,_⟩=>Yk.move p ⟨rfl,Ext.refl _⟩,fun l ⟨hb,hE,f,_⟩=>Yk.nilCheck (vr (PQ r 0) rfl) ⟨rfl,Ext.refl _⟩,fun l ⟨hb,hE,f,_⟩=>Yk.fieldAt BY (vr (PQ r 0) rfl) ⟨rfl,Ext.refl _⟩,fun l ⟨hb,hE,f,_⟩=>Yk.cell1 Ff rfl (vr (PQ r 0) rfl) (Ac hb (show(AU (AD v b (i)))[0]? =some (v:Value)from BP (AD v b (i)))) ⟨rfl,Ext.refl _⟩,fun l ⟨hb,hE,f,_⟩=>Yk.move p ⟨rfl,Ext.refl _⟩,fun l ⟨hb,hE,f,_⟩=>Yk.nilCheck (vr (PQ r 0) rfl) ⟨rfl,Ext.refl _⟩,fun l ⟨hb,hE,f,_⟩=>Yk.fieldAt A4 (vr (PQ r 0) rfl) ⟨rfl,Ext.refl _⟩,fun l ⟨hb,hE,f,_⟩=>Yk.cell1 Fs rfl (vr (PQ r 1) rfl) (Ac hb (show(AU (AD v b (i)))[1]? =some (NI i:Value)from BE (AD v b (i)))) ⟨rfl,Ext.refl _⟩,fun l ⟨hb,hE,f,_⟩=>Yk.callA2 IS (vr v rfl) (vr (NI i) rfl) (((show Calls _ _ _ _ (fun e o=>e = .returned (.tuple #[AB zero32,NI 0,NI 6])∧Ext _ o)from(JA _ v b (hr.keep hE) i hi).mono fun e o ⟨h1,h2⟩=>by subst h1;refine⟨?_,h2⟩;unfold Dw;rw[if_pos (by omega)];rfl)).mono (by rintro e o ⟨rfl,hx⟩;exact⟨_,rfl,rfl,hx⟩)),fun l ⟨hb,hE,f,_⟩=>Yk.move (vr (.tuple #[AB zero32,NI 0,NI 6]) rfl) ⟨rfl,Ext.refl _⟩,fun l ⟨hb,hE,f,_⟩=>Yk.extract (vs:= [AB zero32,NI 0,NI 6]) (vr (.tuple #[AB zero32,NI 0,NI 6]) rfl) (show _=some (AB zero32:Value)from rfl) ⟨rfl,Ext.refl _⟩,fun l ⟨hb,hE,f,_⟩=>Yk.extract (vs:= [AB zero32,NI 0,NI 6]) (vr (.tuple #[AB zero32,NI 0,NI 6]) rfl) (show _=some (NI 0:Value)from rfl) ⟨rfl,Ext.refl _⟩,fun l ⟨hb,hE,f,_⟩=>Yk.extract (vs:= [AB zero32,NI 0,NI 6]) (vr (.tuple #[AB zero32,NI 0,NI 6]) rfl) (show _=some (NI 6:Value)from rfl) ⟨rfl,Ext.refl _⟩,trivial⟩ ?_
 refine BU rfl fun bp ag=> ?_
 have hb:=eb ag hb
 have hgr:w.grownBy bp (some r):=An hgr ag.grown (fun _ e=>by cases e)
 have hE:=hE.trans ag
 have f:=eb ag f
 refine CD (Yk.alloc (cs:=(Lib.byteCells (List.replicate 32 0)).toArray) G8 fun an a1 a2 a3 ah cn=> ?_)
 have bq:=hE.size
 have co:=Bn (bl hb) a2
 have cp:=Bn (bl f) a2
 have hb:=eb ah hb
 have hgr:w.grownBy a1 (some r):=An hgr ah.grown (fun _ e=>by cases e)
 have hE:=hE.trans ah
 have f:=eb ah f
 have h:=a3;clear a3
 have cq:an<a1.heap.size:=by omega
 refine⟨.inr ⟨hb,hE,f,trivial⟩,?_⟩
 refine BU rfl fun br z=> ?_
 have hb:=eb z hb
 have hgr:w.grownBy br (some r):=An hgr z.grown (fun _ e=>by cases e)
 have hE:=hE.trans z
 have f:=eb z f
 have h:=eb z h
 refine CD (Yk.storeAll (vr (PQ an 0) rfl) (vr (AB zero32) rfl) h (by exact EJ (by decide) List.length_replicate) (by exact AH (by decide)) (AI _) fun bs a4 ai cr=> ?_)
 have hb:=kb ai hb (by omega)
 have hgr:w.grownBy bs (some r):=An hgr ai (fun _ e=> .inr (by cases e;omega))
 have hE:=Ae hE ai (Nat.le_trans bq (by omega))
 have f:=kb ai f (by omega)
 clear h
 have h:=a4;clear a4
 have ct:=bl h
 refine⟨.inr ⟨hb,hE,f,trivial⟩,?_⟩
 refine BU rfl fun bt aa=> ?_
 have hb:=eb aa hb
 have hgr:w.grownBy bt (some r):=An hgr aa.grown (fun _ e=>by cases e)
 have hE:=hE.trans aa
 have f:=eb aa f
 have h:=eb aa h
 refine CD (Yk.assign (vr (NI 0) rfl) ?_)
 refine⟨.inr ⟨hb,hE,f,trivial⟩,?_⟩
 refine BU rfl fun bu aj=> ?_
 have hb:=eb aj hb
 have hgr:w.grownBy bu (some r):=An hgr aj.grown (fun _ e=>by cases e)
 have f:=eb aj f
 have h:=eb aj h
 refine CD (Yk.assign (vr (NI 6) rfl) ?_)
 refine⟨.inl rfl,?_⟩
 refine GH (tN (bo _ _ (sk fun cu bv=>(wt (oM rfl (oS rfl (Yk.eqI (a:=(6:Nat)) (b:=(0:Nat)) rfl rfl (k_eql _ _ _ _) (oP rfl (Yp.callA1 Cr (vr (.bool (decide ((6:Nat)=(0)))) rfl) ?_)))))))))
 refine Ar (AQ _ (decide ((6:Nat)=(0)))) ?_ ?_
 rotate_left
 ·
  rintro ch cv ⟨rfl,hb,hx⟩
  refine Aq (postP_panic ?_)
  have hno:=of_decide_eq_false hb
  exact .inr ⟨_,rfl,hP,rfl,(An hgr hx.grown (fun _ e=>by cases e))⟩
 rintro v_ cw ⟨rfl,bw,ao⟩
 have hb:=eb ao hb
 have f:=eb ao f
 have h:=eb ao h
 have cx:=of_decide_eq_true bw
 refine oZ (tN (bv _ _ (sk fun cy bx=>(wt (oM rfl (oM rfl (oS rfl (Yk.nilCheck p (oS rfl (Yk.fieldAt A4 (vr (PQ r 0) rfl) (oS rfl (Yk.storeC (i:=1) (v:=NI 0) (vr (PQ r 1) rfl) (vr (NI 0) rfl) hb (by rw[DH];decide) C1 rfl rfl fun bz a5 a6 cz=> ?_))))))))))))
 clear hb
 clear hE
 have f:=kb a6 f (by omega)
 have h:=kb a6 h (by omega)
 have hb:bz.heap[r]? =some (.cells (AU ((⟨b,((0:Nat):Int)⟩,⟨v⟩):Dp)).toArray 111 (0,0)):=Bf a5 (Eh (AD v b (i)) ((0:Nat):Int));clear a5
 have c0:=bl hb
 refine oZ (tN (bx _ _ (sk fun c1 b0=>(wt (oS rfl (Yk.loadAll (vr (PQ an 0) rfl) h OA rfl (by exact AH (by decide)) (oS rfl (Yk.storeAll (vr (PQ q 0) rfl) (vr (AB zero32) rfl) f (by exact EJ (by decide) List.length_replicate) (by exact AH (by decide)) (AI _) fun c2 a7 c3 c4=> ?_))))))))
 clear f
 have f:=a7;clear a7
 have c5:=bl f
 refine oZ (tN (b0 _ _ (Ap (Br (fn:=Tryd.f114) _ rfl [AB zero32] (AB zero32) rfl ⟨ResF.row rfl f OA rfl (by exact AH (by decide)),trivial⟩ ?_))))
 omega
open Go.RowKit
set_option maxRecDepth 100000
theorem Gt:AG Tryd.prog 110:=fun _ _=>by kernel_rfl
theorem Nk:AG Tryd.prog 112:=fun _ _=>by kernel_rfl
theorem Nl:AG Tryd.prog 115:=fun _ _=>by kernel_rfl
theorem Nm:AG Tryd.prog 116:=fun _ _=>by kernel_rfl
set_option maxHeartbeats 1600000
theorem Nn(w:World)(r g m:Nat)(v:Value)(b:Bs)(i most:Nat)(hb:w.heap[r]? =some (.cells (AU (AD v b (i))).toArray 111 (0,0)))(hr:RB w v b)(hap:b= []∨OB v r)(hi:i≤b.length)(hl:b.length≤4611686018427387904)(Inv:Nat→World→Prop)(Bad:World→Prop) 
  (h0:∀(n j:Nat) (w' :World),Bh b i=some (n,j)→n≤most→w'.heap[r]? =some (.cells (AU (AD v b (j))).toArray 111 (0,0))→w.grownBy w' (some r)→Inv 0 w')
  (hstep:∀(n j k:Nat) (u:World),Bh b i=some (n,j)→k<n→Inv k u→Calls Tryd.prog 112 #[PQ g 0,PQ m 0] u fun e u' =>(∃x,e = .returned x∧x = .tuple #[]∧Inv (k+1) u')∨∃ch,e = .panicked ch∧ch= [BB]∧Bad u')
  (hbad:∀w' :World,(Bh b i=none∨∃n j,Bh b i=some (n,j)∧¬n≤most)→w.grownBy w' (some r)→Bad w'):
  Calls Tryd.prog 111 #[PQ r 0,NI most, .func (.func 112) #[] #[PQ g 0,PQ m 0]] w fun e w' =>(∃x,e = .returned x∧x = .tuple #[]∧∃n j,Bh b i=some (n,j)∧n≤most∧Inv n w')∨∃ch,e = .panicked ch∧ch= [BB]∧Bad w' :=by
 have hlr:=(bl hb)
 have hgr:=World.grownBy.refl w (some r)
 refine Bt (args:= [PQ r 0,NI most, .func (.func 112) #[] #[PQ g 0,PQ m 0]]) Tryd.func111 rfl 19 rfl (Nat.le_of_ble_eq_true rfl) ?_
 intro s hb
 have h:s 0=(PQ r 0:Value):=hb.get 0
 have l:s 1=(NI most:Value):=hb.get 1
 have o:s 2=(.func (.func 112) #[] #[PQ g 0,PQ m 0]:Value):=hb.get 2
 clear hb
 have hE:=Ext.refl w
 refine sk fun K1 y=>(wt (oM rfl (oP rfl (Yp.callA1 Gt h ?_))))
 refine Ar (Ch _ r v b i hb (hr.keep hE) hap hi hl) ?_ ?_
 rotate_left
 ·
  rintro ch w2 ⟨hP,rfl,hgn⟩
  refine Aq (postP_panic ?_)
  exact .inr ⟨_,rfl,rfl,hbad _ (.inl hP) (An hgr hgn (fun _ e=> .inl e))⟩
 rintro v_ z ⟨c,j,hP,rfl,hbn,hgn⟩
 clear hb
 have hgr:w.grownBy z (some r):=An hgr hgn (fun _ e=> .inl e)
 clear hE
 have hb:=hbn;clear hbn
 refine oA rfl (oZ (tN (y _ _ (sk fun K5 aa=>(wt (oM rfl (oM rfl (oS rfl (Yk.eqI (a:=(c:Nat)) (b:=(most:Nat)) rfl l (Cl _ _ _ _) (oP rfl (Yp.callA1 Cr (vr (.bool (decide ((c)≤(most)))) rfl) ?_)))))))))))
 refine Ar (AQ _ (decide ((c)≤(most)))) ?_ ?_
 rotate_left
 ·
  rintro ch w8 ⟨rfl,hb,hx⟩
  refine Aq (postP_panic ?_)
  have hno:=of_decide_eq_false hb
  exact .inr ⟨_,rfl,rfl,hbad _ (.inr ⟨c,j,hP,by omega⟩) (An hgr hx.grown (fun _ e=>by cases e))⟩
 rintro v_ ab ⟨rfl,ac,t⟩
 have hgr:w.grownBy ab (some r):=An hgr t.grown (fun _ e=>by cases e)
 have hb:=eb t hb
 have ad:=of_decide_eq_true ac
 refine oZ ?_
 have hle:=ad
 have hcl:=Io hP
 refine tN (aa _ _ (sk fun ap ae=>(wt (oM rfl (oM rfl (Be [(0,PQ r 0),(1,NI most),(2, .func (.func 112) #[] #[PQ g 0,PQ m 0]),(6,NI c),(13,NI c),(14,NI 0)] ⟨h,l,o,rfl,rfl,rfl,trivial⟩ fun aq ⟨h,l,o,q,p,f,_⟩=>(tN (ae _ _ (Ax (Bc (fun(ρ:At) (wz:World)=>∃k:Nat,ρ 0=(PQ r 0:Value)∧ρ 1=(NI most:Value)∧ρ 2=(.func (.func 112) #[] #[PQ g 0,PQ m 0]:Value)∧ρ 6=(NI c:Value)∧ρ 13=(NI c:Value)∧ρ 14=(NI k:Value)∧Inv k wz∧(k≤c)∧True) (fun ρ _=>c-(intOf (ρ 14)).toNat) ⟨0,h,l,o,q,p,f,h0 c j _ hP hle hb hgr,Nat.zero_le _,trivial⟩ ?_))))))))))
 clear hgr
 clear hb
 rintro af ar ⟨k,h,l,o,q,p,f,hI,hk,-⟩
 have q14:=f
 by_cases hlt:k<c
 ·refine sk fun au ag=>(wt (oS rfl (Yk.eqI (a:=(k:Nat)) (b:=(c:Nat)) f p (AZ _ _ _ _) (oZ (tN (ag _ _ (sk fun av ah=>(AE (vr (.bool (true)) (congrArg Value.bool (decide_eq_true (hlt)))) (Ak (tN (ah _ _ (sk fun aw ai=>(Ax (wt (oM rfl (oP rfl (Yp.clo Nk (caps:= #[PQ g 0,PQ m 0]) o #[PQ g 0,PQ m 0] (by simp) ?_)))))))))))))))))
  refine Ar (hstep c j k _ hP hlt hI) ?_ ?_
  rotate_left
  ·
   rintro ch ax ⟨rfl,hB⟩
   refine Cs (Aq (Aq (Cs (postP_panic ?_))))
   exact .inr ⟨_,rfl,rfl,hB⟩
  rintro v_ ay ⟨rfl,hI2⟩
  have hI:=hI2;clear hI2
  refine oZ (bN (tN (ai _ _ (wt (oS rfl (Yk.bin (xv:=NI k) (yv:=NI 1) f rfl rfl (AN _ _ _ (by omega)) (oM rfl (Be [(0,PQ r 0),(1,NI most),(2, .func (.func 112) #[] #[PQ g 0,PQ m 0]),(6,NI c),(13,NI c),(14,NI ((k)+(1))),(15, .bool (true))] ⟨h,l,o,q,p,rfl,(congrArg Value.bool (decide_eq_true (hlt))),trivial⟩ fun aj ⟨h,l,o,q,p,f,az,_⟩=>(tN (And.intro ⟨k+1,h,l,o,q,p,f,hI,by omega,trivial⟩ ?_))))))))))
  show c-(intOf (aj 14)).toNat<c-(intOf (af 14)).toNat
  rw[f,q14]
  simp only[intOf,Int.toNat_natCast];omega
 refine sk fun a0 ak=>(wt (oS rfl (Yk.eqI (a:=(k:Nat)) (b:=(c:Nat)) f p (AZ _ _ _ _) (oZ (tN (ak _ _ (sk fun a1 a2=>(Al (vr (.bool (false)) (congrArg Value.bool (decide_eq_false (hlt)))) (A6 (Aw (Aw (AM (CB (fn:=Tryd.f111) [] rfl [] (.tuple #[]) rfl trivial ?_)))))))))))))
 have hkc:k=c:=by omega
 subst hkc
 exact .inl ⟨_,rfl,rfl,k,j,hP,hle,hI⟩

theorem No(w:World)(r g m:Nat)(v:Value)(b:Bs)(i most:Nat)(hb:w.heap[r]? =some (.cells (AU (AD v b (i))).toArray 111 (0,0)))(hr:RB w v b)(hap:b= []∨OB v r)(hi:i≤b.length)(hl:b.length≤4611686018427387904)(Inv:Nat→World→Prop)(Bad:World→Prop) 
  (h0:∀(n j:Nat) (w' :World),Bh b i=some (n,j)→n≤most→w'.heap[r]? =some (.cells (AU (AD v b (j))).toArray 111 (0,0))→w.grownBy w' (some r)→Inv 0 w')
  (hstep:∀(n j k:Nat) (u:World),Bh b i=some (n,j)→k<n→Inv k u→Calls Tryd.prog 115 #[PQ m 0,PQ g 0] u fun e u' =>(∃x,e = .returned x∧x = .tuple #[]∧Inv (k+1) u')∨∃ch,e = .panicked ch∧ch= [BB]∧Bad u')
  (hbad:∀w' :World,(Bh b i=none∨∃n j,Bh b i=some (n,j)∧¬n≤most)→w.grownBy w' (some r)→Bad w'):
  Calls Tryd.prog 111 #[PQ r 0,NI most, .func (.func 115) #[] #[PQ m 0,PQ g 0]] w fun e w' =>(∃x,e = .returned x∧x = .tuple #[]∧∃n j,Bh b i=some (n,j)∧n≤most∧Inv n w')∨∃ch,e = .panicked ch∧ch= [BB]∧Bad w' :=by
 have hlr:=(bl hb)
 have hgr:=World.grownBy.refl w (some r)
 refine Bt (args:= [PQ r 0,NI most, .func (.func 115) #[] #[PQ m 0,PQ g 0]]) Tryd.func111 rfl 19 rfl (Nat.le_of_ble_eq_true rfl) ?_
 intro s hb
 have h:s 0=(PQ r 0:Value):=hb.get 0
 have l:s 1=(NI most:Value):=hb.get 1
 have o:s 2=(.func (.func 115) #[] #[PQ m 0,PQ g 0]:Value):=hb.get 2
 clear hb
 have hE:=Ext.refl w
 refine sk fun K1 y=>(wt (oM rfl (oP rfl (Yp.callA1 Gt h ?_))))
 refine Ar (Ch _ r v b i hb (hr.keep hE) hap hi hl) ?_ ?_
 rotate_left
 ·
  rintro ch w2 ⟨hP,rfl,hgn⟩
  refine Aq (postP_panic ?_)
  exact .inr ⟨_,rfl,rfl,hbad _ (.inl hP) (An hgr hgn (fun _ e=> .inl e))⟩
 rintro v_ z ⟨c,j,hP,rfl,hbn,hgn⟩
 clear hb
 have hgr:w.grownBy z (some r):=An hgr hgn (fun _ e=> .inl e)
 clear hE
 have hb:=hbn;clear hbn
 refine oA rfl (oZ (tN (y _ _ (sk fun K5 aa=>(wt (oM rfl (oM rfl (oS rfl (Yk.eqI (a:=(c:Nat)) (b:=(most:Nat)) rfl l (Cl _ _ _ _) (oP rfl (Yp.callA1 Cr (vr (.bool (decide ((c)≤(most)))) rfl) ?_)))))))))))
 refine Ar (AQ _ (decide ((c)≤(most)))) ?_ ?_
 rotate_left
 ·
  rintro ch w8 ⟨rfl,hb,hx⟩
  refine Aq (postP_panic ?_)
  have hno:=of_decide_eq_false hb
  exact .inr ⟨_,rfl,rfl,hbad _ (.inr ⟨c,j,hP,by omega⟩) (An hgr hx.grown (fun _ e=>by cases e))⟩
 rintro v_ ab ⟨rfl,ac,t⟩
 have hgr:w.grownBy ab (some r):=An hgr t.grown (fun _ e=>by cases e)
 have hb:=eb t hb
 have ad:=of_decide_eq_true ac
 refine oZ ?_
 have hle:=ad
 have hcl:=Io hP
 refine tN (aa _ _ (sk fun ap ae=>(wt (oM rfl (oM rfl (Be [(0,PQ r 0),(1,NI most),(2, .func (.func 115) #[] #[PQ m 0,PQ g 0]),(6,NI c),(13,NI c),(14,NI 0)] ⟨h,l,o,rfl,rfl,rfl,trivial⟩ fun aq ⟨h,l,o,q,p,f,_⟩=>(tN (ae _ _ (Ax (Bc (fun(ρ:At) (wz:World)=>∃k:Nat,ρ 0=(PQ r 0:Value)∧ρ 1=(NI most:Value)∧ρ 2=(.func (.func 115) #[] #[PQ m 0,PQ g 0]:Value)∧ρ 6=(NI c:Value)∧ρ 13=(NI c:Value)∧ρ 14=(NI k:Value)∧Inv k wz∧(k≤c)∧True) (fun ρ _=>c-(intOf (ρ 14)).toNat) ⟨0,h,l,o,q,p,f,h0 c j _ hP hle hb hgr,Nat.zero_le _,trivial⟩ ?_))))))))))
 clear hgr
 clear hb
 rintro af ar ⟨k,h,l,o,q,p,f,hI,hk,-⟩
 have q14:=f
 by_cases hlt:k<c
 ·refine sk fun au ag=>(wt (oS rfl (Yk.eqI (a:=(k:Nat)) (b:=(c:Nat)) f p (AZ _ _ _ _) (oZ (tN (ag _ _ (sk fun av ah=>(AE (vr (.bool (true)) (congrArg Value.bool (decide_eq_true (hlt)))) (Ak (tN (ah _ _ (sk fun aw ai=>(Ax (wt (oM rfl (oP rfl (Yp.clo Nl (caps:= #[PQ m 0,PQ g 0]) o #[PQ m 0,PQ g 0] (by simp) ?_)))))))))))))))))
  refine Ar (hstep c j k _ hP hlt hI) ?_ ?_
  rotate_left
  ·
   rintro ch ax ⟨rfl,hB⟩
   refine Cs (Aq (Aq (Cs (postP_panic ?_))))
   exact .inr ⟨_,rfl,rfl,hB⟩
  rintro v_ ay ⟨rfl,hI2⟩
  have hI:=hI2;clear hI2
  refine oZ (bN (tN (ai _ _ (wt (oS rfl (Yk.bin (xv:=NI k) (yv:=NI 1) f rfl rfl (AN _ _ _ (by omega)) (oM rfl (Be [(0,PQ r 0),(1,NI most),(2, .func (.func 115) #[] #[PQ m 0,PQ g 0]),(6,NI c),(13,NI c),(14,NI ((k)+(1))),(15, .bool (true))] ⟨h,l,o,q,p,rfl,(congrArg Value.bool (decide_eq_true (hlt))),trivial⟩ fun aj ⟨h,l,o,q,p,f,az,_⟩=>(tN (And.intro ⟨k+1,h,l,o,q,p,f,hI,by omega,trivial⟩ ?_))))))))))
  show c-(intOf (aj 14)).toNat<c-(intOf (af 14)).toNat
  rw[f,q14]
  simp only[intOf,Int.toNat_natCast];omega
 refine sk fun a0 ak=>(wt (oS rfl (Yk.eqI (a:=(k:Nat)) (b:=(c:Nat)) f p (AZ _ _ _ _) (oZ (tN (ak _ _ (sk fun a1 a2=>(Al (vr (.bool (false)) (congrArg Value.bool (decide_eq_false (hlt)))) (A6 (Aw (Aw (AM (CB (fn:=Tryd.f111) [] rfl [] (.tuple #[]) rfl trivial ?_)))))))))))))
 have hkc:k=c:=by omega
 subst hkc
 exact .inl ⟨_,rfl,rfl,k,j,hP,hle,hI⟩

theorem Np(w:World)(r g m:Nat)(v:Value)(b:Bs)(i most:Nat)(hb:w.heap[r]? =some (.cells (AU (AD v b (i))).toArray 111 (0,0)))(hr:RB w v b)(hap:b= []∨OB v r)(hi:i≤b.length)(hl:b.length≤4611686018427387904)(Inv:Nat→World→Prop)(Bad:World→Prop) 
  (h0:∀(n j:Nat) (w' :World),Bh b i=some (n,j)→n≤most→w'.heap[r]? =some (.cells (AU (AD v b (j))).toArray 111 (0,0))→w.grownBy w' (some r)→Inv 0 w')
  (hstep:∀(n j k:Nat) (u:World),Bh b i=some (n,j)→k<n→Inv k u→Calls Tryd.prog 116 #[PQ m 0,PQ g 0] u fun e u' =>(∃x,e = .returned x∧x = .tuple #[]∧Inv (k+1) u')∨∃ch,e = .panicked ch∧ch= [BB]∧Bad u')
  (hbad:∀w' :World,(Bh b i=none∨∃n j,Bh b i=some (n,j)∧¬n≤most)→w.grownBy w' (some r)→Bad w'):
  Calls Tryd.prog 111 #[PQ r 0,NI most, .func (.func 116) #[] #[PQ m 0,PQ g 0]] w fun e w' =>(∃x,e = .returned x∧x = .tuple #[]∧∃n j,Bh b i=some (n,j)∧n≤most∧Inv n w')∨∃ch,e = .panicked ch∧ch= [BB]∧Bad w' :=by
 have hlr:=(bl hb)
 have hgr:=World.grownBy.refl w (some r)
 refine Bt (args:= [PQ r 0,NI most, .func (.func 116) #[] #[PQ m 0,PQ g 0]]) Tryd.func111 rfl 19 rfl (Nat.le_of_ble_eq_true rfl) ?_
 intro s hb
 have h:s 0=(PQ r 0:Value):=hb.get 0
 have l:s 1=(NI most:Value):=hb.get 1
 have o:s 2=(.func (.func 116) #[] #[PQ m 0,PQ g 0]:Value):=hb.get 2
 clear hb
 have hE:=Ext.refl w
 refine sk fun K1 y=>(wt (oM rfl (oP rfl (Yp.callA1 Gt h ?_))))
 refine Ar (Ch _ r v b i hb (hr.keep hE) hap hi hl) ?_ ?_
 rotate_left
 ·
  rintro ch w2 ⟨hP,rfl,hgn⟩
  refine Aq (postP_panic ?_)
  exact .inr ⟨_,rfl,rfl,hbad _ (.inl hP) (An hgr hgn (fun _ e=> .inl e))⟩
 rintro v_ z ⟨c,j,hP,rfl,hbn,hgn⟩
 clear hb
 have hgr:w.grownBy z (some r):=An hgr hgn (fun _ e=> .inl e)
 clear hE
 have hb:=hbn;clear hbn
 refine oA rfl (oZ (tN (y _ _ (sk fun K5 aa=>(wt (oM rfl (oM rfl (oS rfl (Yk.eqI (a:=(c:Nat)) (b:=(most:Nat)) rfl l (Cl _ _ _ _) (oP rfl (Yp.callA1 Cr (vr (.bool (decide ((c)≤(most)))) rfl) ?_)))))))))))
 refine Ar (AQ _ (decide ((c)≤(most)))) ?_ ?_
 rotate_left
 ·
  rintro ch w8 ⟨rfl,hb,hx⟩
  refine Aq (postP_panic ?_)
  have hno:=of_decide_eq_false hb
  exact .inr ⟨_,rfl,rfl,hbad _ (.inr ⟨c,j,hP,by omega⟩) (An hgr hx.grown (fun _ e=>by cases e))⟩
 rintro v_ ab ⟨rfl,ac,t⟩
 have hgr:w.grownBy ab (some r):=An hgr t.grown (fun _ e=>by cases e)
 have hb:=eb t hb
 have ad:=of_decide_eq_true ac
 refine oZ ?_
 have hle:=ad
 have hcl:=Io hP
 refine tN (aa _ _ (sk fun ap ae=>(wt (oM rfl (oM rfl (Be [(0,PQ r 0),(1,NI most),(2, .func (.func 116) #[] #[PQ m 0,PQ g 0]),(6,NI c),(13,NI c),(14,NI 0)] ⟨h,l,o,rfl,rfl,rfl,trivial⟩ fun aq ⟨h,l,o,q,p,f,_⟩=>(tN (ae _ _ (Ax (Bc (fun(ρ:At) (wz:World)=>∃k:Nat,ρ 0=(PQ r 0:Value)∧ρ 1=(NI most:Value)∧ρ 2=(.func (.func 116) #[] #[PQ m 0,PQ g 0]:Value)∧ρ 6=(NI c:Value)∧ρ 13=(NI c:Value)∧ρ 14=(NI k:Value)∧Inv k wz∧(k≤c)∧True) (fun ρ _=>c-(intOf (ρ 14)).toNat) ⟨0,h,l,o,q,p,f,h0 c j _ hP hle hb hgr,Nat.zero_le _,trivial⟩ ?_))))))))))
 clear hgr
 clear hb
 rintro af ar ⟨k,h,l,o,q,p,f,hI,hk,-⟩
 have q14:=f
 by_cases hlt:k<c
 ·refine sk fun au ag=>(wt (oS rfl (Yk.eqI (a:=(k:Nat)) (b:=(c:Nat)) f p (AZ _ _ _ _) (oZ (tN (ag _ _ (sk fun av ah=>(AE (vr (.bool (true)) (congrArg Value.bool (decide_eq_true (hlt)))) (Ak (tN (ah _ _ (sk fun aw ai=>(Ax (wt (oM rfl (oP rfl (Yp.clo Nm (caps:= #[PQ m 0,PQ g 0]) o #[PQ m 0,PQ g 0] (by simp) ?_)))))))))))))))))
  refine Ar (hstep c j k _ hP hlt hI) ?_ ?_
  rotate_left
  ·
   rintro ch ax ⟨rfl,hB⟩
   refine Cs (Aq (Aq (Cs (postP_panic ?_))))
   exact .inr ⟨_,rfl,rfl,hB⟩
  rintro v_ ay ⟨rfl,hI2⟩
  have hI:=hI2;clear hI2
  refine oZ (bN (tN (ai _ _ (wt (oS rfl (Yk.bin (xv:=NI k) (yv:=NI 1) f rfl rfl (AN _ _ _ (by omega)) (oM rfl (Be [(0,PQ r 0),(1,NI most),(2, .func (.func 116) #[] #[PQ m 0,PQ g 0]),(6,NI c),(13,NI c),(14,NI ((k)+(1))),(15, .bool (true))] ⟨h,l,o,q,p,rfl,(congrArg Value.bool (decide_eq_true (hlt))),trivial⟩ fun aj ⟨h,l,o,q,p,f,az,_⟩=>(tN (And.intro ⟨k+1,h,l,o,q,p,f,hI,by omega,trivial⟩ ?_))))))))))
  show c-(intOf (aj 14)).toNat<c-(intOf (af 14)).toNat
  rw[f,q14]
  simp only[intOf,Int.toNat_natCast];omega
 refine sk fun a0 ak=>(wt (oS rfl (Yk.eqI (a:=(k:Nat)) (b:=(c:Nat)) f p (AZ _ _ _ _) (oZ (tN (ak _ _ (sk fun a1 a2=>(Al (vr (.bool (false)) (congrArg Value.bool (decide_eq_false (hlt)))) (A6 (Aw (Aw (AM (CB (fn:=Tryd.f111) [] rfl [] (.tuple #[]) rfl trivial ?_)))))))))))))
 have hkc:k=c:=by omega
 subst hkc
 exact .inl ⟨_,rfl,rfl,k,j,hP,hle,hI⟩
open Go.RowKit
set_option maxRecDepth 100000
structure RC (w0 : World) (r m g n : Nat) (v : Value) (b : Bs) : Prop where
 hr:RB w0 v b
 lr:w0.heap.size≤r
 lm:w0.heap.size≤m
 lg:w0.heap.size≤g
 ln:w0.heap.size≤n
 hrm:r≠m
 hrg:r≠g
 hrn:r≠n
 hmg:m≠g
 hmn:m≠n
 hgn:g≠n
 hl:b.length≤4611686018427387904
structure RS (w0 : World) (r m g n : Nat) (v : Value) (b : Bs) (p : Ag) (w : World) (i : Nat) (X : Am) : Prop where
 hb:w.heap[r]? =some (.cells (AU (AD v b (i))).toArray 111 (0,0))
 hm:w.heap[m]? =some (.cells (msgC X).toArray 29 (0,0))
 hg:w.heap[g]? =some (.cells ([PQ r 0]).toArray 109 (0,0))
 hn:w.heap[n]? =some (.cells (partsC p).toArray 92 (0,0))
 hE0:Ext w0 w
 hi:i≤b.length
structure Ap4 (u : Value) (r m g n : Nat) : Prop where
 r:OB u r
 m:OB u m
 g:OB u g
 n:OB u n
theorem Ea:Tryd.prog.underlying 109=some (.pointer 111):=by kernel_rfl
theorem Nq:AG Tryd.prog 108:=fun _ _=>by kernel_rfl
theorem KH(z0:Int)(w:World):(Instr.build 67 #[(0, .int .u8 z0)]).run Tryd.prog w = .ok (.agg #[.int .u8 z0, .string ⟨#[]⟩, .int .u8 0, .int .u8 0, .int .u8 0, .int .u8 0, .int .u8 0, .int .u8 0, .int .u8 0, .int .u8 0, .int .u8 0, .int .u8 0, .int .u8 0, .int .u8 0, .int .u8 0, .int .u8 0, .int .u8 0, .int .u8 0, .int .u8 0, .int .u8 0, .int .u8 0, .int .u8 0, .int .u8 0, .int .u8 0, .int .u8 0, .int .u8 0, .int .u8 0, .int .u8 0, .int .u8 0, .int .u8 0, .int .u8 0, .int .u8 0, .int .u8 0, .int .u8 0, .int .u8 0, .int .u8 0, .int .u8 0, .int .u8 0, .int .u8 0, .int .u8 0, .int .u8 0, .int .u8 0, .int .u8 0, .int .u8 0, .int .u8 0, .int .u8 0, .int .u8 0, .int .u8 0, .int .u8 0, .int .u8 0, .int .u8 0, .int .u8 0, .int .u8 0, .int .u8 0, .int .u8 0, .int .u8 0, .int .u8 0, .int .u8 0, .int .u8 0, .int .u8 0, .int .u8 0, .int .u8 0, .int .u8 0, .int .u8 0, .int .u8 0, .int .u8 0]) w:=by kernel_rfl
theorem L3(z0:UInt8)(w:World):(Instr.build 67 #[(0,B8 z0)]).run Tryd.prog w = .ok (.agg (B8 (z0) :: (St ([]) :: (Lib.byteCells zid.1++(Lib.byteCells zid.1)))).toArray) w:=by
 exact KH _ w
theorem Nr:AG Tryd.prog 113:=fun _ _=>by kernel_rfl
theorem Gu:AG Tryd.prog 114:=fun _ _=>by kernel_rfl
theorem Ok:∀(cs:Array Value),cs.size=66→∀w:World,(Instr.buildSlice 22 1 #[(0, .agg cs)]).run Tryd.prog w = .ok (.slice (some ⟨w.heap.size,0,none⟩) 1 1) (w.alloc (.cells cs 67))
 | ⟨c0 :: c1 :: c2 :: c3 :: c4 :: c5 :: c6 :: c7 :: c8 :: c9 :: c10 :: c11 :: c12 :: c13 :: c14 :: c15 :: c16 :: c17 :: c18 :: c19 :: c20 :: c21 :: c22 :: c23 :: c24 :: c25 :: c26 :: c27 :: c28 :: c29 :: c30 :: c31 :: c32 :: c33 :: c34 :: c35 :: c36 :: c37 :: c38 :: c39 :: c40 :: c41 :: c42 :: c43 :: c44 :: c45 :: c46 :: c47 :: c48 :: c49 :: c50 :: c51 :: c52 :: c53 :: c54 :: c55 :: c56 :: c57 :: c58 :: c59 :: c60 :: c61 :: c62 :: c63 :: c64 :: c65 :: []⟩,_,w=>MU c0 c1 c2 c3 c4 c5 c6 c7 c8 c9 c10 c11 c12 c13 c14 c15 c16 c17 c18 c19 c20 c21 c22 c23 c24 c25 c26 c27 c28 c29 c30 c31 c32 c33 c34 c35 c36 c37 c38 c39 c40 c41 c42 c43 c44 c45 c46 c47 c48 c49 c50 c51 c52 c53 c54 c55 c56 c57 c58 c59 c60 c61 c62 c63 c64 c65 w
theorem Ol(c0 c1 c2 c3 c4 c5 c6 c7 c8 c9 c10 c11 c12 c13 c14 c15 c16 c17 c18 c19 c20 c21 c22 c23 c24 c25 c26 c27 c28 c29 c30 c31:Value)(w:World):(Instr.buildSlice 23 1 #[(0, .agg #[c0,c1,c2,c3,c4,c5,c6,c7,c8,c9,c10,c11,c12,c13,c14,c15,c16,c17,c18,c19,c20,c21,c22,c23,c24,c25,c26,c27,c28,c29,c30,c31])]).run Tryd.prog w = .ok (.slice (some ⟨w.heap.size,0,none⟩) 1 1) (w.alloc (.cells #[c0,c1,c2,c3,c4,c5,c6,c7,c8,c9,c10,c11,c12,c13,c14,c15,c16,c17,c18,c19,c20,c21,c22,c23,c24,c25,c26,c27,c28,c29,c30,c31] 25)):=by kernel_rfl
theorem JZ:∀(cs:Array Value),cs.size=32→∀w:World,(Instr.buildSlice 23 1 #[(0, .agg cs)]).run Tryd.prog w = .ok (.slice (some ⟨w.heap.size,0,none⟩) 1 1) (w.alloc (.cells cs 25))
 | ⟨[c0,c1,c2,c3,c4,c5,c6,c7,c8,c9,c10,c11,c12,c13,c14,c15,c16,c17,c18,c19,c20,c21,c22,c23,c24,c25,c26,c27,c28,c29,c30,c31]⟩,_,w=>Ol c0 c1 c2 c3 c4 c5 c6 c7 c8 c9 c10 c11 c12 c13 c14 c15 c16 c17 c18 c19 c20 c21 c22 c23 c24 c25 c26 c27 c28 c29 c30 c31 w
theorem wr9_ig25:∃z,(Tryd.prog.info? 25).map (fun i=>(i.zero,i.size,i.bytes))=some (some z,32,32)∧z.cells.size=32:=Fu (by kernel_rfl)
theorem IT:(Tryd.prog.info? 23).map (·.size)=some 1:=by kernel_rfl
set_option maxHeartbeats 1600000
theorem Om{w0 w:World}{r m g n:Nat}{v:Value}{b:Bs}{p:Ag}{i:Nat}{X:Am}(C:RC w0 r m g n v b)(hS:RS w0 r m g n v b p w i X)(ho:OG w0.heap.size 67 66 updC w X.2.refs X.1.refs)(hlw:X.1.refs.length≤1000000)(ap:Ap4 X.2.refs r m g n):
  Calls Tryd.prog 112 #[PQ g 0,PQ m 0] w fun e w' =>(∃x,e = .returned x∧x = .tuple #[]∧∃c j vw,updP b i=some (c,j)∧RS w0 r m g n v b p w' j (({ X.1 with refs:=X.1.refs++ [c] },{ X.2 with refs:=vw }):Am)∧OG w0.heap.size 67 66 updC w' vw (X.1.refs++ [c])∧Ap4 vw r m g n)∨∃ch,e = .panicked ch∧updP b i=none∧ch= [BB]∧Ext w0 w' :=by
 obtain⟨hr,lr,lm,lg,ln,hrm,hrg,hrn,hmg,hmn,hgn,hl⟩:=C
 obtain⟨hb,hm,hg,hn,f,hi⟩:=hS
 have hlr:=(bl hb)
 have hlm:=(bl hm)
 have hlg:=(bl hg)
 have hln:=(bl hn)
 have hapr:b= []∨OB v r:=by
   rcases b with _ | ⟨b0,b1⟩
   ·exact .inl rfl
   ·exact .inr fun e=>by have:=RB.lt hr (by simp) e;omega
 refine Bt (args:= [PQ g 0,PQ m 0]) Tryd.func112 rfl 18 rfl (Nat.le_of_ble_eq_true rfl) ?_
 intro aj hb
 have T0:aj 0=(PQ g 0:Value):=hb.get 0
 have T1:aj 1=(PQ m 0:Value):=hb.get 1
 clear hb
 refine sk fun K1 ay=>(wt (oS rfl (Yk.cell1 Ea rfl T0 (Ac hg (show _=some (PQ r 0:Value)from rfl)) (oP rfl (Yp.callA1 Nq (vr (PQ r 0) rfl) ?_)))))
 refine Ar (Hk _ r v b i hb (hr.keep f) hapr hi hl) ?_ ?_
 rotate_left
 ·
  rintro ch w4 ⟨hPx,rfl,hgx⟩
  refine Aq (postP_panic ?_)
  exact .inr ⟨_,rfl,by simp only[updP,hPx,Option.bind_some,Option.bind_none],rfl,Ae f hgx lr⟩
 rintro v_ w6 ⟨c1,j1,hP1,rfl,al,ac⟩
 have f:=Ae f ac (Nat.le_trans (Nat.le_refl _) lr)
 clear hb
 have hm:=kb ac hm (by omega)
 have hg:=kb ac hg (by omega)
 have hn:=kb ac hn (by omega)
 have ho:=OG.kept ho ac ap.r
 have hb:=al;clear al
 have hle_j1:=Hi hP1
 have bf:=bl hb
 refine oS rfl (Yk.build1 (vr (B8 (c1)) rfl) (fun w=>L3 c1 w) (oS rfl (Yk.alloc (cs:=(updC (⟨0,[],zid,zid⟩:AO)).toArray) N3 fun k w9 af am q bg=> ?_)))
 have ah:=f.size
 have bh:=Bn (bl hm) af
 have bi:=Bn (bl hg) af
 have bj:=Bn (bl hn) af
 have bk:=Bn (bl hb) af
 have ai:OB X.2.refs k:=AW ho.2 (by omega)
 have f:=f.trans q
 have hm:=eb q hm
 have hg:=eb q hg
 have hn:=eb q hn
 have ho:=ho.keep q
 have hb:=eb q hb
 have h:=am;clear am
 have bm:k<w9.heap.size:=by omega
 refine oS rfl (Yk.storeAll (vr (PQ k 0) rfl) (vr (.agg (updC (⟨c1,[],zid,zid⟩:AO)).toArray) rfl) h (by simp only[List.size_toArray,BW]) (AF (BW _) IE) (DM (x:=(⟨c1,[],zid,zid⟩:AO))) fun a0 an s bn=> ?_)
 have f:=Ae f s (Nat.le_trans ah (by omega))
 have hm:=kb s hm (by omega)
 have hg:=kb s hg (by omega)
 have hn:=kb s hn (by omega)
 have ho:=OG.kept ho s ai
 have hb:=kb s hb (by omega)
 clear h
 have h:a0.heap[k]? =some (.cells (updC (⟨c1,[],zid,zid⟩:AO)).toArray 67 (0,0)):=an;clear an
 have bo:=bl h
 refine oZ (tN (ay _ _ (sk fun bp a1=>(wt (oS rfl (Yk.cell1 Ea rfl T0 (Ac hg (show _=some (PQ r 0:Value)from rfl)) (oP rfl (Yp.callA2 Nr (vr (PQ r 0) rfl) (vr (NI 32) rfl) ?_))))))))
 refine Ar (Gs _ r v b j1 hb (hr.keep f) hapr hle_j1 hl 32) ?_ ?_
 rotate_left
 ·
  rintro ch bq ⟨hPx,rfl,hgx⟩
  refine Aq (postP_panic ?_)
  exact .inr ⟨_,rfl,by simp only[updP,hP1,hPx,Option.bind_some,Option.bind_none],rfl,Ae f hgx lr⟩
 rintro v_ br ⟨c2,j2,hP2,rfl,ao,t⟩
 have f:=Ae f t (Nat.le_trans (Nat.le_refl _) lr)
 have hm:=kb t hm (by omega)
 have hg:=kb t hg (by omega)
 have hn:=kb t hn (by omega)
 have ho:=OG.kept ho t ap.r
 clear hb
 have h:=kb t h (by omega)
 have hb:=ao;clear ao
 have hle_j2:=(EC hP2).1
 have bs:=bl hb
 refine oS rfl (Yk.fieldAt FG (vr (PQ k 0) rfl) (oS rfl (Yk.storeC (i:=1) (v:=St (c2)) (vr (PQ k 1) rfl) (vr (St (c2)) rfl) h (by rw[BW];decide) MY rfl rfl fun a2 aq u bt=> ?_)))
 have f:=Ae f u (Nat.le_trans ah (by omega))
 have hm:=kb u hm (by omega)
 have hg:=kb u hg (by omega)
 have hn:=kb u hn (by omega)
 have ho:=OG.kept ho u ai
 clear h
 have hb:=kb u hb (by omega)
 have h:a2.heap[k]? =some (.cells (updC (⟨c1,c2,zid,zid⟩:AO)).toArray 67 (0,0)):=Bf aq (Pv (⟨c1,[],zid,zid⟩:AO) c2);clear aq
 have bu:=bl h
 refine oZ (tN (a1 _ _ (sk fun bv a3=>(wt (oS rfl (Yk.cell1 Ea rfl T0 (Ac hg (show _=some (PQ r 0:Value)from rfl)) (oP rfl (Yp.callA1 Gu (vr (PQ r 0) rfl) ?_))))))))
 refine Ar (DV _ r v b j2 hb (hr.keep f) hapr hle_j2 hl) ?_ ?_
 rotate_left
 ·
  rintro ch bw ⟨hPx,rfl,hgx⟩
  refine Aq (postP_panic ?_)
  exact .inr ⟨_,rfl,by simp only[updP,hP1,hP2,hPx,Option.bind_some,Option.bind_none],rfl,Ae f hgx lr⟩
 rintro v_ bx ⟨c3,j3,hP3,rfl,ar,y⟩
 have f:=Ae f y (Nat.le_trans (Nat.le_refl _) lr)
 have hm:=kb y hm (by omega)
 have hg:=kb y hg (by omega)
 have hn:=kb y hn (by omega)
 have ho:=OG.kept ho y ap.r
 clear hb
 have h:=kb y h (by omega)
 have hb:=ar;clear ar
 have hle_j3:=ES hP3
 have bz:=bl hb
 refine oS rfl (Yk.fieldAt Lx (vr (PQ k 0) rfl) (oS rfl (Yk.storeMid (a:=Fh (⟨c1,c2,zid,zid⟩:AO)) (m:=Lib.byteCells zid.1) (z:=Ho (⟨c1,c2,zid,zid⟩:AO)) (cells:=Lib.byteCells c3.1) (vr (PQ k 34) rfl) (vr (AB c3.1) rfl) (Fi (⟨c1,c2,zid,zid⟩:AO)▸h) (F7 (⟨c1,c2,zid,zid⟩:AO)) (by rw[Lib.byteCells_length,Lib.byteCells_length,zid.2,c3.2]) (by rw[Lib.byteCells_length,c3.2];exact Mx) (AI _) fun a4 au aa b2=> ?_)))
 have f:=Ae f aa (Nat.le_trans ah (by omega))
 have hm:=kb aa hm (by omega)
 have hg:=kb aa hg (by omega)
 have hn:=kb aa hn (by omega)
 have ho:=OG.kept ho aa ai
 clear h
 have hb:=kb aa hb (by omega)
 have h:a4.heap[k]? =some (.cells (updC (⟨c1,c2,zid,c3⟩:AO)).toArray 67 (0,0)):=Bf au (Px (⟨c1,c2,zid,zid⟩:AO) c3);clear au
 have b3:=bl h
 refine oZ (tN (a3 _ _ (wt (oS rfl (Yk.fieldAt HK T1 (oS rfl (Yk.cell1 DS rfl (vr (PQ m 2) rfl) (Ac hm (show(msgC X)[2]? =some (X.2.refs:Value)from Cp X)) (oS rfl (Yk.loadAll (vr (PQ k 0) rfl) h (N2).choose_spec rfl (AF (BW (⟨c1,c2,zid,c3⟩:AO)) IE) (oS rfl (Yk.lit1G (a:=(⟨c1,c2,zid,c3⟩:AO)) (enc:=updC) (vr (.agg (updC (⟨c1,c2,zid,c3⟩:AO)).toArray) rfl) (BW _) Ok fun a5 a6 av ab=> ?_)))))))))))
 have f:=f.trans ab
 have hm:=eb ab hm
 have hg:=eb ab hg
 have hn:=eb ab hn
 have ho:=ho.keep ab
 have hb:=eb ab hb
 refine oS rfl (Yk.appendRG _ _ w0.heap.size _ 88 DS wr22_ig67.choose_spec.1 wr22_ig67.choose_spec.2 DS (X.1.refs) ([(⟨c1,c2,zid,c3⟩:AO)]) (OG.of ho (vr X.2.refs rfl)) (RG.of av (vr a5 rfl)) (fun _ _=>DM) (by simp only[List.length_cons,List.length_nil];omega) (by simp only[List.length_cons,List.length_nil];omega) f.size fun o a7 ad l=> ?_)
 have l:Grew a6 a7 X.2.refs o:=l
 have a8:OB o r:=AV l ap.r (bl hb)
 have aw:OB o m:=AV l ap.m (bl hm)
 have a9:OB o g:=AV l ap.g (bl hg)
 have ba:OB o n:=AV l ap.n (bl hn)
 have f:=BG f l ho.2 (Nat.le_refl _)
 have hm:=AR hm l ap.m
 have hg:=AR hg l ap.g
 have hn:=AR hn l ap.n
 clear ho
 have hb:=AR hb l ap.r
 clear av
 refine oS rfl (Yk.fieldAt HK T1 (oS rfl (Yk.storeC (i:=2) (v:=o) (vr (PQ m 2) rfl) (vr o rfl) hm (by rw[Az];decide) LO (RG.one (RG.ofOwn ad)).1 (RG.one (RG.ofOwn ad)).2 fun bb ax ae b4=> ?_)))
 have f:=Ae f ae (Nat.le_trans (Nat.le_refl _) (by omega))
 clear hm
 have hg:=kb ae hg (by omega)
 have hn:=kb ae hn (by omega)
 have hb:=kb ae hb (by omega)
 have ad:=OG.kept ad ae aw
 have hm:bb.heap[m]? =some (.cells (msgC ((⟨X.1.kind,X.1.session,(X.1.refs)++ [(⟨c1,c2,zid,c3⟩:AO)],X.1.wants,X.1.haves,X.1.size,X.1.at_,X.1.id,X.1.bytes,X.1.name,X.1.old,X.1.new,X.1.force,X.1.code⟩,⟨o,X.2.wants,X.2.haves,X.2.bytes⟩):Am)).toArray 29 (0,0)):=Bf ax (PA X o ((X.1.refs)++ [(⟨c1,c2,zid,c3⟩:AO)]));clear ax
 have b5:=bl hm
 refine oZ (CB (fn:=Tryd.f112) [] rfl [] (.tuple #[]) rfl trivial ?_)
 exact .inl ⟨_,rfl,rfl,⟨c1,c2,zid,c3⟩,j3,o,by simp only[updP,hP1,hP2,hP3,Option.bind_some],⟨hb,hm,hg,hn,f,hle_j3⟩,ad,⟨a8,aw,a9,ba⟩⟩

theorem Oo{w0 w:World}{r m g n:Nat}{v:Value}{b:Bs}{p:Ag}{i:Nat}{X:Am}(C:RC w0 r m g n v b)(hS:RS w0 r m g n v b p w i X)(ho:OG w0.heap.size 25 32 Lib.byteCells w X.2.wants X.1.wants)(hlw:X.1.wants.length≤1000000)(ap:Ap4 X.2.wants r m g n):
  Calls Tryd.prog 115 #[PQ m 0,PQ g 0] w fun e w' =>(∃x,e = .returned x∧x = .tuple #[]∧∃c j vw,C7 b i=some (c,j)∧RS w0 r m g n v b p w' j (({ X.1 with wants:=X.1.wants++ [c.1] },{ X.2 with wants:=vw }):Am)∧OG w0.heap.size 25 32 Lib.byteCells w' vw (X.1.wants++ [c.1])∧Ap4 vw r m g n)∨∃ch,e = .panicked ch∧C7 b i=none∧ch= [BB]∧Ext w0 w' :=by
 obtain⟨hr,lr,lm,lg,ln,hrm,hrg,hrn,hmg,hmn,hgn,hl⟩:=C
 obtain⟨hb,hm,hg,hn,f,hi⟩:=hS
 have hlr:=(bl hb)
 have hlm:=(bl hm)
 have hlg:=(bl hg)
 have hln:=(bl hn)
 have hapr:b= []∨OB v r:=by
   rcases b with _ | ⟨b0,b1⟩
   ·exact .inl rfl
   ·exact .inr fun e=>by have:=RB.lt hr (by simp) e;omega
 refine Bt (args:= [PQ m 0,PQ g 0]) Tryd.func115 rfl 9 rfl (Nat.le_of_ble_eq_true rfl) ?_
 intro ae hb
 have T0:ae 0=(PQ m 0:Value):=hb.get 0
 have T1:ae 1=(PQ g 0:Value):=hb.get 1
 clear hb
 have s:Ext w (World.drew w):=(Below.refl _ _).drew
 have f:=f.trans s
 have hb:=eb s hb
 have hm:=eb s hm
 have hg:=eb s hg
 have hn:=eb s hn
 have ho:=ho.keep s
 refine Em [(0,2,PQ m 3),(1,3,X.2.wants),(2,4,PQ r 0),(6,8,PQ m 3)] [3,4,5,7] (fun wz=>Ext w0 wz∧wz.heap[m]? =some (.cells (msgC X).toArray 29 (0,0))∧wz.heap[g]? =some (.cells ([PQ r 0]).toArray 109 (0,0))∧wz.heap[n]? =some (.cells (partsC p).toArray 92 (0,0))∧True) (fun _ _ ⟨f,hm,hg,hn,_⟩ k=>⟨(f.trans k),(eb k hm),(eb k hg),(eb k hn),trivial⟩) (by kernel_rfl) (by kernel_rfl) (by kernel_rfl) ⟨f,hm,hg,hn,trivial⟩ ⟨fun w2 ⟨f,hm,hg,hn,_⟩=>Yk.fieldAt HM T0 ⟨rfl,Ext.refl _⟩,fun w2 ⟨f,hm,hg,hn,_⟩=>Yk.cell1 BT rfl (vr (PQ m 3) rfl) (Ac hm (show(msgC X)[3]? =some (X.2.wants:Value)from Fj X)) ⟨rfl,Ext.refl _⟩,fun w2 ⟨f,hm,hg,hn,_⟩=>Yk.cell1 Ea rfl T1 (Ac hg (show _=some (PQ r 0:Value)from rfl)) ⟨rfl,Ext.refl _⟩,fun w2 ⟨f,hm,hg,hn,_⟩=>Yk.fieldAt HM T0 ⟨rfl,Ext.refl _⟩,trivial⟩ (BU rfl fun w3 t=> ?_)
 have f:=f.trans t
 have hb:=eb t hb
 have hm:=eb t hm
 have hg:=eb t hg
 have hn:=eb t hn
 have ho:=ho.keep t
 refine OF (Yp.callA1 Gu (vr (PQ r 0) rfl) ?_)
 refine Ar (DV _ r v b i hb (hr.keep f) hapr hi hl) ?_ ?_
 rotate_left
 ·
  rintro ch w7 ⟨hPx,rfl,hgx⟩
  intro _
  refine postP_panic ?_
  exact .inr ⟨_,rfl,hPx,rfl,Ae f hgx lr⟩
 rintro v_ w9 ⟨c,j,hP,rfl,ag,aa⟩
 have f:=Ae f aa (Nat.le_trans (Nat.le_refl _) lr)
 clear hb
 have hm:=kb aa hm (by omega)
 have hg:=kb aa hg (by omega)
 have hn:=kb aa hn (by omega)
 have ho:=OG.kept ho aa ap.r
 have hb:=ag;clear ag
 have hle_j:=ES hP
 have ax:=bl hb
 refine⟨.inr ⟨f,hm,hg,hn,trivial⟩,?_⟩
 refine BU rfl fun ay u=> ?_
 have f:=f.trans u
 have hm:=eb u hm
 have hg:=eb u hg
 have hn:=eb u hn
 have ho:=ho.keep u
 have hb:=eb u hb
 refine CD (Yk.lit1G (a:=(c.1)) (enc:=Lib.byteCells) (vr (AB c.1) rfl) (by rw[Lib.byteCells_length];exact c.2) JZ fun ak az ac y=> ?_)
 have f:=f.trans y
 have hm:=eb y hm
 have hg:=eb y hg
 have hn:=eb y hn
 have ho:=ho.keep y
 have hb:=eb y hb
 refine⟨.inr ⟨f,hm,hg,hn,trivial⟩,?_⟩
 refine BU rfl fun al o=> ?_
 have f:=f.trans o
 have hm:=eb o hm
 have hg:=eb o hg
 have hn:=eb o hn
 have ho:=ho.keep o
 have hb:=eb o hb
 have ac:=ac.keep o
 refine CD (Yk.appendRG _ _ w0.heap.size _ 32 BT wr9_ig25.choose_spec.1 wr9_ig25.choose_spec.2 BT (X.1.wants) ([(c.1)]) (OG.of ho (vr X.2.wants rfl)) (RG.of ac (vr ak rfl)) (fun _ _=>AI _) (by simp only[List.length_cons,List.length_nil];omega) (by simp only[List.length_cons,List.length_nil];omega) f.size fun l am q h=> ?_)
 have h:Grew al am X.2.wants l:=h
 have an:OB l r:=AV h ap.r (bl hb)
 have ah:OB l m:=AV h ap.m (bl hm)
 have ao:OB l g:=AV h ap.g (bl hg)
 have aq:OB l n:=AV h ap.n (bl hn)
 have f:=BG f h ho.2 (Nat.le_refl _)
 have hm:=AR hm h ap.m
 have hg:=AR hg h ap.g
 have hn:=AR hn h ap.n
 clear ho
 have hb:=AR hb h ap.r
 clear ac
 refine⟨.inr ⟨f,hm,hg,hn,trivial⟩,?_⟩
 refine BU rfl fun a0 z=> ?_
 have f:=f.trans z
 have hm:=eb z hm
 have hg:=eb z hg
 have hn:=eb z hn
 have hb:=eb z hb
 have q:=q.keep z
 refine CD (Yk.storeC (i:=3) (v:=l) (vr (PQ m 3) rfl) (vr l rfl) hm (by rw[Az];decide) IT (RG.one (RG.ofOwn q)).1 (RG.one (RG.ofOwn q)).2 fun ar ai ab a1=> ?_)
 have f:=Ae f ab (Nat.le_trans (Nat.le_refl _) (by omega))
 clear hm
 have hg:=kb ab hg (by omega)
 have hn:=kb ab hn (by omega)
 have hb:=kb ab hb (by omega)
 have q:=OG.kept q ab ah
 have hm:ar.heap[m]? =some (.cells (msgC ((⟨X.1.kind,X.1.session,X.1.refs,(X.1.wants)++ [(c.1)],X.1.haves,X.1.size,X.1.at_,X.1.id,X.1.bytes,X.1.name,X.1.old,X.1.new,X.1.force,X.1.code⟩,⟨X.2.refs,l,X.2.haves,X.2.bytes⟩):Am)).toArray 29 (0,0)):=Bf ai (PB X l ((X.1.wants)++ [(c.1)]));clear ai
 have a2:=bl hm
 refine⟨.inl rfl,?_⟩
 refine GH (CB (fn:=Tryd.f115) [] rfl [] (.tuple #[]) rfl trivial ?_)
 exact .inl ⟨_,rfl,rfl,c,j,l,hP,⟨hb,hm,hg,hn,f,hle_j⟩,q,⟨an,ah,ao,aq⟩⟩

theorem Oq{w0 w:World}{r m g n:Nat}{v:Value}{b:Bs}{p:Ag}{i:Nat}{X:Am}(C:RC w0 r m g n v b)(hS:RS w0 r m g n v b p w i X)(ho:OG w0.heap.size 25 32 Lib.byteCells w X.2.haves X.1.haves)(hlw:X.1.haves.length≤1000000)(ap:Ap4 X.2.haves r m g n)(hq:OG w0.heap.size 25 32 Lib.byteCells w X.2.wants X.1.wants)(qp:Ap4 X.2.wants r m g n)(aq:ApartV X.2.haves X.2.wants)(qa:ApartV X.2.wants X.2.haves):
  Calls Tryd.prog 116 #[PQ m 0,PQ g 0] w fun e w' =>(∃x,e = .returned x∧x = .tuple #[]∧∃c j vw,C7 b i=some (c,j)∧RS w0 r m g n v b p w' j (({ X.1 with haves:=X.1.haves++ [c.1] },{ X.2 with haves:=vw }):Am)∧OG w0.heap.size 25 32 Lib.byteCells w' vw (X.1.haves++ [c.1])∧Ap4 vw r m g n∧OG w0.heap.size 25 32 Lib.byteCells w' X.2.wants X.1.wants∧ApartV vw X.2.wants∧ApartV X.2.wants vw)∨∃ch,e = .panicked ch∧C7 b i=none∧ch= [BB]∧Ext w0 w' :=by
 obtain⟨hr,lr,lm,lg,ln,hrm,hrg,hrn,hmg,hmn,hgn,hl⟩:=C
 obtain⟨hb,hm,hg,hn,f,hi⟩:=hS
 have hlr:=(bl hb)
 have hlm:=(bl hm)
 have hlg:=(bl hg)
 have hln:=(bl hn)
 have hapr:b= []∨OB v r:=by
   rcases b with _ | ⟨b0,b1⟩
   ·exact .inl rfl
   ·exact .inr fun e=>by have:=RB.lt hr (by simp) e;omega
 refine Bt (args:= [PQ m 0,PQ g 0]) Tryd.func116 rfl 9 rfl (Nat.le_of_ble_eq_true rfl) ?_
 intro ae hb
 have T0:ae 0=(PQ m 0:Value):=hb.get 0
 have T1:ae 1=(PQ g 0:Value):=hb.get 1
 clear hb
 have q:Ext w (World.drew w):=(Below.refl _ _).drew
 have f:=f.trans q
 have hb:=eb q hb
 have hm:=eb q hm
 have hg:=eb q hg
 have hn:=eb q hn
 have ho:=ho.keep q
 have hq:=hq.keep q
 refine Em [(0,2,PQ m 4),(1,3,X.2.haves),(2,4,PQ r 0),(6,8,PQ m 4)] [3,4,5,7] (fun wz=>Ext w0 wz∧wz.heap[m]? =some (.cells (msgC X).toArray 29 (0,0))∧wz.heap[g]? =some (.cells ([PQ r 0]).toArray 109 (0,0))∧wz.heap[n]? =some (.cells (partsC p).toArray 92 (0,0))∧True) (fun _ _ ⟨f,hm,hg,hn,_⟩ k=>⟨(f.trans k),(eb k hm),(eb k hg),(eb k hn),trivial⟩) (by kernel_rfl) (by kernel_rfl) (by kernel_rfl) ⟨f,hm,hg,hn,trivial⟩ ⟨fun w2 ⟨f,hm,hg,hn,_⟩=>Yk.fieldAt HN T0 ⟨rfl,Ext.refl _⟩,fun w2 ⟨f,hm,hg,hn,_⟩=>Yk.cell1 BT rfl (vr (PQ m 4) rfl) (Ac hm (show(msgC X)[4]? =some (X.2.haves:Value)from Fk X)) ⟨rfl,Ext.refl _⟩,fun w2 ⟨f,hm,hg,hn,_⟩=>Yk.cell1 Ea rfl T1 (Ac hg (show _=some (PQ r 0:Value)from rfl)) ⟨rfl,Ext.refl _⟩,fun w2 ⟨f,hm,hg,hn,_⟩=>Yk.fieldAt HN T0 ⟨rfl,Ext.refl _⟩,trivial⟩ (BU rfl fun w3 s=> ?_)
 have f:=f.trans s
 have hb:=eb s hb
 have hm:=eb s hm
 have hg:=eb s hg
 have hn:=eb s hn
 have ho:=ho.keep s
 have hq:=hq.keep s
 refine OF (Yp.callA1 Gu (vr (PQ r 0) rfl) ?_)
 refine Ar (DV _ r v b i hb (hr.keep f) hapr hi hl) ?_ ?_
 rotate_left
 ·
  rintro ch w7 ⟨hPx,rfl,hgx⟩
  intro _
  refine postP_panic ?_
  exact .inr ⟨_,rfl,hPx,rfl,Ae f hgx lr⟩
 rintro v_ w9 ⟨c,j,hP,rfl,ag,aa⟩
 have f:=Ae f aa (Nat.le_trans (Nat.le_refl _) lr)
 clear hb
 have hm:=kb aa hm (by omega)
 have hg:=kb aa hg (by omega)
 have hn:=kb aa hn (by omega)
 have ho:=OG.kept ho aa ap.r
 have hq:=OG.kept hq aa qp.r
 have hb:=ag;clear ag
 have hle_j:=ES hP
 have a0:=bl hb
 refine⟨.inr ⟨f,hm,hg,hn,trivial⟩,?_⟩
 refine BU rfl fun a1 t=> ?_
 have f:=f.trans t
 have hm:=eb t hm
 have hg:=eb t hg
 have hn:=eb t hn
 have ho:=ho.keep t
 have hq:=hq.keep t
 have hb:=eb t hb
 refine CD (Yk.lit1G (a:=(c.1)) (enc:=Lib.byteCells) (vr (AB c.1) rfl) (by rw[Lib.byteCells_length];exact c.2) JZ fun al a2 ac u=> ?_)
 have f:=f.trans u
 have hm:=eb u hm
 have hg:=eb u hg
 have hn:=eb u hn
 have ho:=ho.keep u
 have hq:=hq.keep u
 have hb:=eb u hb
 refine⟨.inr ⟨f,hm,hg,hn,trivial⟩,?_⟩
 refine BU rfl fun am o=> ?_
 have f:=f.trans o
 have hm:=eb o hm
 have hg:=eb o hg
 have hn:=eb o hn
 have ho:=ho.keep o
 have hq:=hq.keep o
 have hb:=eb o hb
 have ac:=ac.keep o
 refine CD (Yk.appendRG _ _ w0.heap.size _ 32 BT wr9_ig25.choose_spec.1 wr9_ig25.choose_spec.2 BT (X.1.haves) ([(c.1)]) (OG.of ho (vr X.2.haves rfl)) (RG.of ac (vr al rfl)) (fun _ _=>AI _) (by simp only[List.length_cons,List.length_nil];omega) (by simp only[List.length_cons,List.length_nil];omega) f.size fun l an y h=> ?_)
 have h:Grew am an X.2.haves l:=h
 have ao:OB l r:=AV h ap.r (bl hb)
 have ah:OB l m:=AV h ap.m (bl hm)
 have ar:OB l g:=AV h ap.g (bl hg)
 have au:OB l n:=AV h ap.n (bl hn)
 have ai:ApartV l X.2.wants:=GS h aq hq.2
 have av:ApartV X.2.wants l:=fun k h1 h2=>ai k h2 h1
 have f:=BG f h ho.2 (Nat.le_refl _)
 have hm:=AR hm h ap.m
 have hg:=AR hg h ap.g
 have hn:=AR hn h ap.n
 clear ho
 have hq:=KQ hq h aq
 have hb:=AR hb h ap.r
 clear ac
 refine⟨.inr ⟨f,hm,hg,hn,trivial⟩,?_⟩
 refine BU rfl fun a3 z=> ?_
 have f:=f.trans z
 have hm:=eb z hm
 have hg:=eb z hg
 have hn:=eb z hn
 have hq:=hq.keep z
 have hb:=eb z hb
 have y:=y.keep z
 refine CD (Yk.storeC (i:=4) (v:=l) (vr (PQ m 4) rfl) (vr l rfl) hm (by rw[Az];decide) IT (RG.one (RG.ofOwn y)).1 (RG.one (RG.ofOwn y)).2 fun aw aj ab a4=> ?_)
 have f:=Ae f ab (Nat.le_trans (Nat.le_refl _) (by omega))
 clear hm
 have hg:=kb ab hg (by omega)
 have hn:=kb ab hn (by omega)
 have hq:=OG.kept hq ab qp.m
 have hb:=kb ab hb (by omega)
 have y:=OG.kept y ab ah
 have hm:aw.heap[m]? =some (.cells (msgC ((⟨X.1.kind,X.1.session,X.1.refs,X.1.wants,(X.1.haves)++ [(c.1)],X.1.size,X.1.at_,X.1.id,X.1.bytes,X.1.name,X.1.old,X.1.new,X.1.force,X.1.code⟩,⟨X.2.refs,X.2.wants,l,X.2.bytes⟩):Am)).toArray 29 (0,0)):=Bf aj (PC X l ((X.1.haves)++ [(c.1)]));clear aj
 have a5:=bl hm
 refine⟨.inl rfl,?_⟩
 refine GH (CB (fn:=Tryd.f116) [] rfl [] (.tuple #[]) rfl trivial ?_)
 exact .inl ⟨_,rfl,rfl,c,j,l,hP,⟨hb,hm,hg,hn,f,hle_j⟩,y,⟨ao,ah,ar,au⟩,hq,ai,av⟩
open Go.RowKit
set_option maxRecDepth 100000
set_option linter.unusedVariables false
theorem L4{w0 w:World}{r m g n:Nat}{v:Value}{b:Bs}{p:Ag}{i:Nat}{X:Am}(C:RC w0 r m g n v b)(hS:RS w0 r m g n v b p w i X)(h0:X.1.refs= [])(ho:OG w0.heap.size 67 66 updC w X.2.refs X.1.refs)(ap:Ap4 X.2.refs r m g n):
  Calls Tryd.prog 111 #[PQ r 0,NI 128, .func (.func 112) #[] #[PQ g 0,PQ m 0]] w fun e w' =>(∃x,e = .returned x∧x = .tuple #[]∧∃(l:List AO) (j:Nat) (vw:Value),BA b i 128 (addUpd b) X.1.refs=some (l,j)∧RS w0 r m g n v b p w' j (({ X.1 with refs:=l },{ X.2 with refs:=vw }):Am)∧OG w0.heap.size 67 66 updC w' vw l∧Ap4 vw r m g n)∨∃ch,e = .panicked ch∧BA b i 128 (addUpd b) X.1.refs=none∧ch= [BB]∧Ext w0 w' :=by
 have hb_:=hS.hb
 have hlr:=(bl hS.hb)
 have hlm:=(bl hS.hm)
 have hlg:=(bl hS.hg)
 have hln:=(bl hS.hn)
 have hapr:b= []∨OB v r:=by
  rcases b with _ | ⟨b0,b1⟩
  ·exact .inl rfl
  ·exact .inr fun e=>by have:=RB.lt C.hr (by simp) e;have:=C.lr;omega
 refine(Nn w r g m v b i 128 hS.hb (C.hr.keep hS.hE0) hapr hS.hi C.hl (fun q u=>∃c j0,Bh b i=some (c,j0)∧c≤128∧∃(l:List AO) (j:Nat) (vw:Value),C8 (addUpd b) q (X.1.refs,j0)=some (l,j)∧l.length=q∧RS w0 r m g n v b p u j (({ X.1 with refs:=l },{ X.2 with refs:=vw }):Am)∧OG w0.heap.size 67 66 updC u vw l∧Ap4 vw r m g n) (fun u=>BA b i 128 (addUpd b) X.1.refs=none∧Ext w0 u) (fun c j0 w' hP hc hb' hgr=> ?_) (fun c j0 q u hP hq ⟨c',j0',hP',hc',l,j,vw,hit,hll,hS',ho',ap'⟩=> ?_) (fun w' hn hgr=>⟨FO hn,Ae hS.hE0 hgr C.lr⟩)).mono ?_
 ·exact⟨c,j0,hP,hc,X.1.refs,j0,X.2.refs,rfl,by rw[h0];rfl,⟨hb',(hgr.block m hlm (Dh (Ne.symm C.hrm))).trans hS.hm,(hgr.block g hlg (Dh (Ne.symm C.hrg))).trans hS.hg,(hgr.block n hln (Dh (Ne.symm C.hrn))).trans hS.hn,Ae hS.hE0 hgr C.lr,Dk hS.hi hP⟩,ho.kept hgr ap.r,ap⟩
 ·rw[hP]at hP'
  cases hP'
  refine(Om C hS' ho' (by show l.length≤_;omega) ap').mono ?_
  rintro e u' (⟨x,rfl,rfl,d,j',vw',hd,a,f,ap2⟩ | ⟨ch,rfl,hd,hch,hE⟩)
  ·exact .inl ⟨_,rfl,rfl,c,j0,hP,hc',_,j',vw',by rw[DU hit];unfold addUpd;rw[hd];rfl,by show(l++ [_]).length=_;rw[List.length_append,hll];rfl,a,f,ap2⟩
  ·exact .inr ⟨ch,rfl,hch,by rw[C0 hP hc'];exact FN (j:=q+1) (by rw[DU hit];unfold addUpd;rw[hd];rfl) c hq,hE⟩
 ·rintro e w' (⟨x,rfl,rfl,c,j0,hP,hc,c',j0',hP',-,l,j,vw,hit,-,hS',ho',ap'⟩ | ⟨ch,rfl,hch,hn,hE⟩)
  ·rw[hP]at hP'
   cases hP'
   exact .inl ⟨_,rfl,rfl,l,j,vw,by rw[C0 hP hc];exact hit,hS',ho',ap'⟩
  ·exact .inr ⟨ch,rfl,hn,hch,hE⟩
theorem L5{w0 w:World}{r m g n:Nat}{v:Value}{b:Bs}{p:Ag}{i:Nat}{X:Am}(C:RC w0 r m g n v b)(hS:RS w0 r m g n v b p w i X)(h0:X.1.wants= [])(ho:OG w0.heap.size 25 32 Lib.byteCells w X.2.wants X.1.wants)(ap:Ap4 X.2.wants r m g n):
  Calls Tryd.prog 111 #[PQ r 0,NI 65536, .func (.func 115) #[] #[PQ m 0,PQ g 0]] w fun e w' =>(∃x,e = .returned x∧x = .tuple #[]∧∃(l:List Bs) (j:Nat) (vw:Value),BA b i 65536 (addId b) X.1.wants=some (l,j)∧RS w0 r m g n v b p w' j (({ X.1 with wants:=l },{ X.2 with wants:=vw }):Am)∧OG w0.heap.size 25 32 Lib.byteCells w' vw l∧Ap4 vw r m g n)∨∃ch,e = .panicked ch∧BA b i 65536 (addId b) X.1.wants=none∧ch= [BB]∧Ext w0 w' :=by
 have hb_:=hS.hb
 have hlr:=(bl hS.hb)
 have hlm:=(bl hS.hm)
 have hlg:=(bl hS.hg)
 have hln:=(bl hS.hn)
 have hapr:b= []∨OB v r:=by
  rcases b with _ | ⟨b0,b1⟩
  ·exact .inl rfl
  ·exact .inr fun e=>by have:=RB.lt C.hr (by simp) e;have:=C.lr;omega
 refine(No w r g m v b i 65536 hS.hb (C.hr.keep hS.hE0) hapr hS.hi C.hl (fun q u=>∃c j0,Bh b i=some (c,j0)∧c≤65536∧∃(l:List Bs) (j:Nat) (vw:Value),C8 (addId b) q (X.1.wants,j0)=some (l,j)∧l.length=q∧RS w0 r m g n v b p u j (({ X.1 with wants:=l },{ X.2 with wants:=vw }):Am)∧OG w0.heap.size 25 32 Lib.byteCells u vw l∧Ap4 vw r m g n) (fun u=>BA b i 65536 (addId b) X.1.wants=none∧Ext w0 u) (fun c j0 w' hP hc hb' hgr=> ?_) (fun c j0 q u hP hq ⟨c',j0',hP',hc',l,j,vw,hit,hll,hS',ho',ap'⟩=> ?_) (fun w' hn hgr=>⟨FO hn,Ae hS.hE0 hgr C.lr⟩)).mono ?_
 ·exact⟨c,j0,hP,hc,X.1.wants,j0,X.2.wants,rfl,by rw[h0];rfl,⟨hb',(hgr.block m hlm (Dh (Ne.symm C.hrm))).trans hS.hm,(hgr.block g hlg (Dh (Ne.symm C.hrg))).trans hS.hg,(hgr.block n hln (Dh (Ne.symm C.hrn))).trans hS.hn,Ae hS.hE0 hgr C.lr,Dk hS.hi hP⟩,ho.kept hgr ap.r,ap⟩
 ·rw[hP]at hP'
  cases hP'
  refine(Oo C hS' ho' (by show l.length≤_;omega) ap').mono ?_
  rintro e u' (⟨x,rfl,rfl,d,j',vw',hd,a,f,ap2⟩ | ⟨ch,rfl,hd,hch,hE⟩)
  ·exact .inl ⟨_,rfl,rfl,c,j0,hP,hc',_,j',vw',by rw[DU hit];unfold addId;rw[hd];rfl,by show(l++ [_]).length=_;rw[List.length_append,hll];rfl,a,f,ap2⟩
  ·exact .inr ⟨ch,rfl,hch,by rw[C0 hP hc'];exact FN (j:=q+1) (by rw[DU hit];unfold addId;rw[hd];rfl) c hq,hE⟩
 ·rintro e w' (⟨x,rfl,rfl,c,j0,hP,hc,c',j0',hP',-,l,j,vw,hit,-,hS',ho',ap'⟩ | ⟨ch,rfl,hch,hn,hE⟩)
  ·rw[hP]at hP'
   cases hP'
   exact .inl ⟨_,rfl,rfl,l,j,vw,by rw[C0 hP hc];exact hit,hS',ho',ap'⟩
  ·exact .inr ⟨ch,rfl,hn,hch,hE⟩
theorem L6{w0 w:World}{r m g n:Nat}{v:Value}{b:Bs}{p:Ag}{i:Nat}{X:Am}(C:RC w0 r m g n v b)(hS:RS w0 r m g n v b p w i X)(h0:X.1.haves= [])(ho:OG w0.heap.size 25 32 Lib.byteCells w X.2.haves X.1.haves)(ap:Ap4 X.2.haves r m g n)(hq:OG w0.heap.size 25 32 Lib.byteCells w X.2.wants X.1.wants)(qp:Ap4 X.2.wants r m g n)(aq:ApartV X.2.haves X.2.wants)(qa:ApartV X.2.wants X.2.haves):
  Calls Tryd.prog 111 #[PQ r 0,NI 65536, .func (.func 116) #[] #[PQ m 0,PQ g 0]] w fun e w' =>(∃x,e = .returned x∧x = .tuple #[]∧∃(l:List Bs) (j:Nat) (vw:Value),BA b i 65536 (addId b) X.1.haves=some (l,j)∧RS w0 r m g n v b p w' j (({ X.1 with haves:=l },{ X.2 with haves:=vw }):Am)∧OG w0.heap.size 25 32 Lib.byteCells w' vw l∧Ap4 vw r m g n∧OG w0.heap.size 25 32 Lib.byteCells w' X.2.wants X.1.wants∧ApartV vw X.2.wants∧ApartV X.2.wants vw)∨∃ch,e = .panicked ch∧BA b i 65536 (addId b) X.1.haves=none∧ch= [BB]∧Ext w0 w' :=by
 have hb_:=hS.hb
 have hlr:=(bl hS.hb)
 have hlm:=(bl hS.hm)
 have hlg:=(bl hS.hg)
 have hln:=(bl hS.hn)
 have hapr:b= []∨OB v r:=by
  rcases b with _ | ⟨b0,b1⟩
  ·exact .inl rfl
  ·exact .inr fun e=>by have:=RB.lt C.hr (by simp) e;have:=C.lr;omega
 refine(Np w r g m v b i 65536 hS.hb (C.hr.keep hS.hE0) hapr hS.hi C.hl (fun q u=>∃c j0,Bh b i=some (c,j0)∧c≤65536∧∃(l:List Bs) (j:Nat) (vw:Value),C8 (addId b) q (X.1.haves,j0)=some (l,j)∧l.length=q∧RS w0 r m g n v b p u j (({ X.1 with haves:=l },{ X.2 with haves:=vw }):Am)∧OG w0.heap.size 25 32 Lib.byteCells u vw l∧Ap4 vw r m g n∧OG w0.heap.size 25 32 Lib.byteCells u X.2.wants X.1.wants∧ApartV vw X.2.wants∧ApartV X.2.wants vw) (fun u=>BA b i 65536 (addId b) X.1.haves=none∧Ext w0 u) (fun c j0 w' hP hc hb' hgr=> ?_) (fun c j0 q u hP hq ⟨c',j0',hP',hc',l,j,vw,hit,hll,hS',ho',ap',hq2,aq2,qa2⟩=> ?_) (fun w' hn hgr=>⟨FO hn,Ae hS.hE0 hgr C.lr⟩)).mono ?_
 ·exact⟨c,j0,hP,hc,X.1.haves,j0,X.2.haves,rfl,by rw[h0];rfl,⟨hb',(hgr.block m hlm (Dh (Ne.symm C.hrm))).trans hS.hm,(hgr.block g hlg (Dh (Ne.symm C.hrg))).trans hS.hg,(hgr.block n hln (Dh (Ne.symm C.hrn))).trans hS.hn,Ae hS.hE0 hgr C.lr,Dk hS.hi hP⟩,ho.kept hgr ap.r,ap,hq.kept hgr qp.r,aq,qa⟩
 ·rw[hP]at hP'
  cases hP'
  refine(Oq C hS' ho' (by show l.length≤_;omega) ap' hq2 qp aq2 qa2).mono ?_
  rintro e u' (⟨x,rfl,rfl,d,j',vw',hd,a,f,ap2,hq3,aq3,qa3⟩ | ⟨ch,rfl,hd,hch,hE⟩)
  ·exact .inl ⟨_,rfl,rfl,c,j0,hP,hc',_,j',vw',by rw[DU hit];unfold addId;rw[hd];rfl,by show(l++ [_]).length=_;rw[List.length_append,hll];rfl,a,f,ap2,hq3,aq3,qa3⟩
  ·exact .inr ⟨ch,rfl,hch,by rw[C0 hP hc'];exact FN (j:=q+1) (by rw[DU hit];unfold addId;rw[hd];rfl) c hq,hE⟩
 ·rintro e w' (⟨x,rfl,rfl,c,j0,hP,hc,c',j0',hP',-,l,j,vw,hit,-,hS',ho',ap',hq2,aq2,qa2⟩ | ⟨ch,rfl,hch,hn,hE⟩)
  ·rw[hP]at hP'
   cases hP'
   exact .inl ⟨_,rfl,rfl,l,j,vw,by rw[C0 hP hc];exact hit,hS',ho',ap',hq2,aq2,qa2⟩
  ·exact .inr ⟨ch,rfl,hn,hch,hE⟩
end Go.Proofs.YtmonlobfofkbdaaDoor
