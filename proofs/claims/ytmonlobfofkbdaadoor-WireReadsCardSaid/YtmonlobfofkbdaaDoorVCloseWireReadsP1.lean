/- Part 1 of what stands behind closeWireReads.card: laws and walks of the functions that are reached. Conditions: those that each theorem names. -/
import Derived.Test.YtmonlobfofkbdaaDoorV7
set_option linter.unusedVariables false
set_option linter.unusedSimpArgs false
namespace Go.Proofs.YtmonlobfofkbdaaDoor
open Go.RowKit
theorem GF{l:List UInt8}{a x k:Nat}(ha:a≤l.length)(h:AQ 0 (l.drop a)=some (x,k)):x<9223372036854775808∧a+k≤l.length∧1≤k:=by
  have h1:=Eg _ _ _ h
  have h2:=Fk _ _ _ h
  have h3:k≤9:=by have:=h1.2.2;simp at this;omega
  have h4:128^k≤128^9:=Nat.pow_le_pow_right (by decide) h3
  have h5:=h1.2.1
  rw[List.length_drop]at h5
  exact⟨Nat.lt_of_lt_of_le h2 h4,by omega,h1.1⟩
theorem F4{α:Type}(l:List α)(a t:Nat)(d:α):(l.drop a).getD t d=l.getD (a+t) d:=by
  rw[List.getD_eq_getElem?_getD,List.getD_eq_getElem?_getD,List.getElem?_drop]
def D4:List UInt8→Nat
  | []=>0
  | c :: r=>c.toNat%128+128*D4 r
theorem F5:∀(k j:Nat) (l:List UInt8),(∀t,t<k→128≤(l.getD t 0).toNat)→k<l.length→(l.getD k 0).toNat<128→j+k≤8→¬((l.getD k 0).toNat=0∧0<j+k)→AQ j l=some (D4 (l.take (k+1)),k+1)
  | _,_,[],_,h,_,_,_=>by simp at h
  | 0,j,c :: r,_,_,h2,_,h4=>by
    simp only[List.getD_cons_zero]at h2 h4
    unfold AQ
    rw[if_neg (by omega),if_neg (by simpa using h4)]
    rw[List.take_succ_cons,List.take_zero,D4,D4,Nat.mul_zero,Nat.add_zero,Nat.mod_eq_of_lt h2]
  | k+1,j,c :: r,h1,h0,h2,h3,h4=>by
    have hc:=h1 0 (by omega)
    simp only[List.getD_cons_zero]at hc
    simp only[List.getD_cons_succ]at h2 h4
    unfold AQ
    rw[if_pos hc,if_neg (by omega),F5 k (j+1) r (fun t ht=>by have:=h1 (t+1) (by omega);simpa only[List.getD_cons_succ] using this) (by simpa using h0) h2 (by omega) (by rw[show j+1+k=j+(k+1) by omega];exact h4)]
    have hl:=c.toNat_lt
    simp only[Option.map_some,List.take_succ_cons,D4]
    rw[show c.toNat%128=c.toNat-128 by omega]
theorem Hb:∀(k j:Nat) (l:List UInt8),(∀t,t<k→128≤(l.getD t 0).toNat)→k<l.length→(l.getD k 0).toNat=0→0<j+k→AQ j l=none
  | _,_,[],_,h,_,_=>by simp at h
  | 0,j,c :: r,_,_,h2,h4=>by
    simp only[List.getD_cons_zero]at h2
    unfold AQ
    rw[if_neg (by omega),if_pos ⟨h2,by omega⟩]
  | k+1,j,c :: r,h1,h0,h2,h4=>by
    have hc:=h1 0 (by omega)
    simp only[List.getD_cons_zero]at hc
    simp only[List.getD_cons_succ]at h2
    unfold AQ
    rw[if_pos hc]
    split
    · rfl
    · rw[Hb k (j+1) r (fun t ht=>by have:=h1 (t+1) (by omega);simpa only[List.getD_cons_succ] using this) (by simpa using h0) h2 (by omega)]
      rfl
theorem Fy:∀(k j:Nat) (l:List UInt8),j≤8→(∀t,t<k→128≤(l.getD t 0).toNat)→(l.length≤k∨9≤j+k)→AQ j l=none
  | _,j,[],_,_,_=>by simp[AQ]
  | 0,j,c :: r,hj,_,h=>by simp at h;omega
  | k+1,j,c :: r,hj,h1,h=>by
    have hc:=h1 0 (by omega)
    simp only[List.getD_cons_zero]at hc
    unfold AQ
    rw[if_pos hc]
    split
    · rfl
    · rw[Fy k (j+1) r (by omega) (fun t ht=>by have:=h1 (t+1) (by omega);simpa only[List.getD_cons_succ] using this) (by simp at h;omega)]
      rfl
theorem Je(l:List UInt8)(i k:Nat)(hi:i<k)(hk:k≤l.length):D4 ((l.take k).drop i)=(l.getD i 0).toNat%128+128*D4 ((l.take k).drop (i+1)):=by
  have hl:i<(l.take k).length:=by rw[List.length_take];omega
  rw[List.drop_eq_getElem_cons hl,D4]
  congr 2
  simp[List.getD,show i<l.length by omega]
theorem IB:∀l:List UInt8,D4 l<128^l.length
  | []=>by simp[D4]
  | c :: r=>by
    have:=IB r
    rw[D4,List.length_cons,Nat.pow_succ]
    omega
def Bn(l:Bs)(a:Nat):Nat × Nat × Nat:=match AQ 0 (l.drop a)with | none=>(0,0,6) | some x=>(x.1,a+x.2,0)
def AE(l:Bs)(a mx:Nat):Bs × Nat × Nat:=
  match AQ 0 (l.drop a)with
  | none=>([],0,6)
  | some x=>if mx<x.1 then([],0,2)else if l.length-(a+x.2)<x.1 then([],0,6)else((l.drop (a+x.2)).take x.1,a+x.2+x.1,0)
theorem Gd{l:Bs}{a mx:Nat}(h:AQ 0 (l.drop a)=none):AE l a mx=([],0,6):=by unfold AE;rw[h]
theorem Ge{l:Bs}{a mx n k:Nat}(h:AQ 0 (l.drop a)=some (n,k)):AE l a mx=if mx<n then([],0,2)else if l.length-(a+k)<n then([],0,6)else((l.drop (a+k)).take n,a+k+n,0):=by unfold AE;rw[h]
theorem Jx(l:Bs)(a n:Nat):(l.drop a).take (a+n-a)=(l.drop a).take n:=by rw[Nat.add_sub_cancel_left]
def Ih(l:Bs)(a i:Nat):Bs:=(l.drop a).take i++List.replicate (32-i) 0
theorem Or{l:Bs}{a i:Nat}(hi:i≤32)(ha:a+32≤l.length):(Ih l a i).length=32:=by
  unfold Ih
  rw[List.length_append,List.length_take,List.length_drop,List.length_replicate]
  omega
theorem NN{l:Bs}{a i:Nat}(hi:i<32)(ha:a+32≤l.length):(Ih l a i).set i (l.getD (a+i) 0)=Ih l a (i+1):=by
  unfold Ih
  have hl:((l.drop a).take i).length=i:=by rw[List.length_take,List.length_drop];omega
  rw[List.set_append_right _ _ (by omega),hl,Nat.sub_self,show 32-i=(32-(i+1))+1 by omega,List.replicate_succ,List.set_cons_zero,List.take_succ_eq_append_getElem (by rw[List.length_drop];omega),List.append_assoc,List.getElem_drop,List.getD_eq_getElem?_getD,List.getElem?_eq_getElem (by omega)]
  rfl
theorem Ot(l:Bs)(a:Nat):Ih l a 32=(l.drop a).take 32:=by unfold Ih;simp
def AR(l:Bs)(a:Nat):Bs × Nat × Nat:=if l.length<a then(List.replicate 32 0,0,1)else if l.length-a<32 then(List.replicate 32 0,0,6)else((l.drop a).take 32,a+32,0)
theorem Ii(l:Bs)(a:Nat):(AR l a).1.length=32:=by
  unfold AR
  split
  · simp
  · split
    · simp
    · rw[List.length_take,List.length_drop];omega
theorem Lj(t:TypeId)(a:Nat)(h:a<9223372036854775808):Go.binOp .sub t (.int .i64 (a:Int)) (.int .i64 ((1:Nat):Int))=pure (.int .i64 ((a:Int)-1)):=by
  by_cases ha:1≤a
  · rw[BE t a 1 h ha]
    congr 2
    omega
  · have:a=0:=by omega
    subst this
    rfl
open Go.RowKit
def Dx{α:Type}(z:α)(P:Option (α × Nat))(s:Nat × Bool):α ×(Nat × Bool):=if s.2=true then(match P with | some x=>(x.1,(x.2,true)) | none=>(z,(s.1,false)))else(z,(s.1,false))
def DB(b:Bs)(s:Nat × Bool):UInt8 ×(Nat × Bool):=Dx 0 (Cx b s.1) s
def BM(b:Bs)(s:Nat × Bool):Nat ×(Nat × Bool):=Dx 0 (Bk b s.1) s
def DK(b:Bs)(most:Nat)(s:Nat × Bool):Bs ×(Nat × Bool):=Dx [] (BU b s.1 most) s
def DC(b:Bs)(s:Nat × Bool):CI ×(Nat × Bool):=Dx zid (CZ b s.1) s
theorem Cm{α:Type}{z a:α}{P:Option (α × Nat)}{i j:Nat}(h:P=some (a,j)):Dx z P (i,true)=(a,(j,true)):=by unfold Dx;rw[if_pos rfl,h]
theorem GU{α:Type}{z:α}{P:Option (α × Nat)}{i:Nat}{k:Bool}(h:P=none):Dx z P (i,k)=(z,(i,false)):=by unfold Dx;rw[h];cases k <;> rfl
theorem JC{α:Type}{z:α}{P:Option (α × Nat)}{i:Nat}:Dx z P (i,false)=(z,(i,false)):=rfl
def itR{σ:Type}(f:σ ×(Nat × Bool)→σ ×(Nat × Bool)):Nat→σ ×(Nat × Bool)→σ ×(Nat × Bool)
  | 0,s=>s
  | n+1,s=>if(itR f n s).2.2=true then f (itR f n s)else itR f n s
theorem Hs{σ:Type}{f:σ ×(Nat × Bool)→σ ×(Nat × Bool)}{s:σ ×(Nat × Bool)}{l:σ}{j i:Nat}(h:itR f j s=(l,(i,true))):itR f (j+1) s=f (l,(i,true)):=by
  show(if(itR f j s).2.2=true then f (itR f j s)else itR f j s)=_
  rw[h,if_pos rfl]
theorem Ht{σ:Type}{f:σ ×(Nat × Bool)→σ ×(Nat × Bool)}{s:σ ×(Nat × Bool)}{l:σ}{j i:Nat}(h:itR f j s=(l,(i,false))):∀n,j≤n→itR f n s=(l,(i,false))
  | 0,hn=>by
    obtain rfl:j=0:=by omega
    exact h
  | n+1,hn=>by
    by_cases e:j=n+1
    · subst e;exact h
    · have ih:=Ht h n (by omega)
      show(if(itR f n s).2.2=true then f (itR f n s)else itR f n s)=_
      rw[ih]
      rfl
def addUpdR(b:Bs)(t:List AJ ×(Nat × Bool)):List AJ ×(Nat × Bool):=
  (t.1++ [⟨(DB b t.2).1,(DK b 32 (DB b t.2).2).1,zid,(DC b (DK b 32 (DB b t.2).2).2).1⟩],(DC b (DK b 32 (DB b t.2).2).2).2)
def C6(b:Bs)(t:List Bs ×(Nat × Bool)):List Bs ×(Nat × Bool):=(t.1++ [(DC b t.2).1.1],(DC b t.2).2)
def manyR{σ:Type}(f:List σ ×(Nat × Bool)→List σ ×(Nat × Bool))(b:Bs)(most:Nat)(s:Nat × Bool):List σ ×(Nat × Bool):=itR f (BM b s).1 ([],((BM b s).2.1,(BM b s).2.2&&decide ((BM b s).1≤most)))
theorem F6{σ:Type}{f:List σ ×(Nat × Bool)→List σ ×(Nat × Bool)}{b:Bs}{most n i:Nat}{k:Bool}{s:Nat × Bool}{t:List σ ×(Nat × Bool)}(h:BM b s=(n,(i,k)))(ht:itR f n ([],(i,k&&decide (n≤most)))=t):manyR f b most s=t:=by unfold manyR;rw[h];exact ht
def CO(b:Bs)(k:UInt8)(s:Int)(z:Nat × Bool):Msg ×(Nat × Bool):=
  if k.toNat=2 then({ msg0 k s with refs:=(manyR (addUpdR b) b 128 z).1 },(manyR (addUpdR b) b 128 z).2)
  else if k.toNat=3 then({ msg0 k s with wants:=(manyR (C6 b) b 65536 z).1,haves:=(manyR (C6 b) b 65536 (manyR (C6 b) b 65536 z).2).1 },(manyR (C6 b) b 65536 (manyR (C6 b) b 65536 z).2).2)
  else if k.toNat=4 then({ msg0 k s with size:=(((BM b z).1:Nat):Int),id:=(DC b (BM b z).2).1 },(DC b (BM b z).2).2)
  else if k.toNat=5 then({ msg0 k s with at_:=(((BM b z).1:Nat):Int) },(BM b z).2)
  else if k.toNat=6 then({ msg0 k s with at_:=(((BM b z).1:Nat):Int),bytes:=(DK b 256 (BM b z).2).1 },(DK b 256 (BM b z).2).2)
  else if k.toNat=7 then
    ({ msg0 k s with size:=(((BM b z).1:Nat):Int),id:=(DC b (BM b z).2).1,name:=(DK b 32 (DC b (BM b z).2).2).1,old:=(DC b (DK b 32 (DC b (BM b z).2).2).2).1,new:=(DC b (DC b (DK b 32 (DC b (BM b z).2).2).2).2).1,force:=decide ((DB b (DC b (DC b (DK b 32 (DC b (BM b z).2).2).2).2).2).1.toNat=1) },
      (DB b (DC b (DC b (DK b 32 (DC b (BM b z).2).2).2).2).2).2)
  else if k.toNat=8 then({ msg0 k s with code:=(((BM b z).1:Nat):Int) },(BM b z).2)
  else(msg0 k s,z)
def CH(b:Bs):Msg ×(Nat × Bool):=CO b (DB b (0,true)).1 (((BM b (DB b (0,true)).2).1:Nat):Int) (BM b (DB b (0,true)).2).2
open Classical in
noncomputable def Ij(b:Bs):Option Msg:=if(CH b).2.2=true∧rightB (CH b).1=true∧encB (CH b).1=b then some (CH b).1 else none
theorem N5{σ:Type}{b:Bs}{f:List σ × Nat→Option (List σ × Nat)}{g:List σ ×(Nat × Bool)→List σ ×(Nat × Bool)}(hs:∀u t,f u=some t→g (u.1,(u.2,true))=(t.1,(t.2,true))):∀(n:Nat) (s t:List σ × Nat),Dw f n s=some t→itR g n (s.1,(s.2,true))=(t.1,(t.2,true))
  | 0,s,t,h=>by cases h;rfl
  | n+1,s,t,h=>by
    obtain⟨u,h1,h2⟩:=F0 h
    rw[Hs (N5 (b:=b) hs n s u h1)]
    exact hs u t h2
theorem IC{σ:Type}{b:Bs}{most i:Nat}{f:List σ × Nat→Option (List σ × Nat)}{g:List σ ×(Nat × Bool)→List σ ×(Nat × Bool)}{t:List σ × Nat}(hs:∀u t,f u=some t→g (u.1,(u.2,true))=(t.1,(t.2,true)))(h:BO b i most f []=some t):manyR g b most (i,true)=(t.1,(t.2,true)):=by
  obtain⟨n,j,h1,h2,h3⟩:=Fo h
  have e:BM b (i,true)=(n,(j,true)):=Cm h1
  unfold manyR
  rw[e]
  simp only[decide_eq_true h2,Bool.and_true]
  exact N5 (b:=b) hs n ([],j) t h3
theorem NO{b:Bs}(u t:List AJ × Nat)(h:addUpd b u=some t):addUpdR b (u.1,(u.2,true))=(t.1,(t.2,true)):=by
  unfold addUpd updP at h
  simp only[Option.map_eq_some_iff,Option.bind_eq_some_iff]at h
  obtain⟨x,⟨⟨c,j1⟩,h1,⟨n,j2⟩,h2,⟨y,j3⟩,h3,h4⟩,h5⟩:=h
  cases h4
  subst h5
  unfold addUpdR DB DK DC
  simp only[Cm h1,Cm h2,Cm h3]
theorem Lk{b:Bs}(u t:List Bs × Nat)(h:addId b u=some t):C6 b (u.1,(u.2,true))=(t.1,(t.2,true)):=by
  unfold addId at h
  obtain⟨x,h1,rfl⟩:=Option.map_eq_some_iff.1 h
  unfold C6 DC
  rw[Cm (a:=x.1) (j:=x.2) h1]
theorem Ou{b:Bs}{k:UInt8}{s:Int}{i:Nat}{z:Msg × Nat}(h:Ck b (msg0 k s) i=some z):CO b k s (i,true)=(z.1,(z.2,true)):=by
  unfold Ck at h
  split at h
  · rename_i hk
    obtain rfl:k=1:=hk
    cases h;rfl
  · split at h
    · rename_i hk
      obtain rfl:k=2:=hk
      obtain⟨t,h1,h2⟩:=Option.bind_eq_some_iff.1 h
      cases h2
      unfold CO
      rw[if_pos (by decide),IC NO h1]
    · split at h
      · rename_i hk
        obtain rfl:k=3:=hk
        obtain⟨t,h1,h⟩:=Option.bind_eq_some_iff.1 h
        obtain⟨u,h2,h3⟩:=Option.bind_eq_some_iff.1 h
        cases h3
        unfold CO
        rw[if_neg (by decide),if_pos (by decide),IC Lk h1]
        simp only
        rw[IC Lk h2]
      · split at h
        · rename_i hk
          obtain rfl:k=4:=hk
          simp only[Option.bind_eq_some_iff]at h
          obtain⟨⟨n,j⟩,h1,⟨x,j2⟩,h2,h3⟩:=h
          cases h3
          unfold CO BM DC
          simp only[Cm h1,Cm h2]
          rfl
        · split at h
          · rename_i hk
            obtain rfl:k=5:=hk
            simp only[Option.bind_eq_some_iff]at h
            obtain⟨⟨n,j⟩,h1,h3⟩:=h
            cases h3
            unfold CO BM
            simp only[Cm h1]
            rfl
          · split at h
            · rename_i hk
              obtain rfl:k=6:=hk
              simp only[Option.bind_eq_some_iff]at h
              obtain⟨⟨n,j⟩,h1,⟨x,j2⟩,h2,h3⟩:=h
              cases h3
              unfold CO BM DK
              simp only[Cm h1,Cm h2]
              rfl
            · split at h
              · rename_i hk
                obtain rfl:k=7:=hk
                simp only[Option.bind_eq_some_iff]at h
                obtain⟨⟨n,j⟩,h1,⟨x,j2⟩,h2,⟨y,j3⟩,h3,⟨o,j4⟩,h4,⟨a,j5⟩,h5,⟨f,j6⟩,h6,h7⟩:=h
                split at h7
                · cases h7
                  unfold CO BM DK DC DB
                  simp only[Cm h1,Cm h2,Cm h3,Cm h4,Cm h5,Cm h6]
                  rfl
                · cases h7
              · split at h
                · rename_i hk
                  obtain rfl:k=8:=hk
                  simp only[Option.bind_eq_some_iff]at h
                  obtain⟨⟨n,j⟩,h1,h3⟩:=h
                  cases h3
                  unfold CO BM
                  simp only[Cm h1]
                  rfl
                · cases h
theorem M9{b:Bs}(hI:DV (CH b).1):Ij b=Cv b:=by
  cases hd:Cv b with
  | some m=>
    obtain⟨h1,h2,h3⟩:=GD hd
    have hr:CH b=(m,((encB m).length,true)):=by
      unfold Cv at hd
      obtain⟨⟨k,j⟩,g1,hd⟩:=Option.bind_eq_some_iff.1 hd
      split at hd
      · obtain⟨⟨s,j2⟩,g2,hd⟩:=Option.bind_eq_some_iff.1 hd
        obtain⟨⟨m',j3⟩,g3,hd⟩:=Option.bind_eq_some_iff.1 hd
        split at hd
        · rename_i hq
          have e:m' =m:=Option.some.inj hd
          have hj:j3=b.length:=hq.1
          have a:DB b (0,true)=(k,(j,true)):=Cm g1
          have c:BM b (j,true)=(s,(j2,true)):=Cm g2
          unfold CH
          rw[a]
          simp only
          rw[c]
          simp only
          rw[Ou (k:=k) (s:=((s:Nat):Int)) g3]
          simp only[e,hj,h2]
        · cases hd
      · cases hd
    unfold Ij
    rw[hr,if_pos ⟨rfl,h1,h2⟩]
  | none=>
    unfold Ij
    rw[if_neg]
    rintro⟨-,h1,h2⟩
    have:=Ki h1 hI
    rw[h2,hd]at this
    cases this
theorem txtR_len{b s:Bs}{most:Nat}{z t:Nat × Bool}(h:DK b most z=(s,t)):s.length≤most:=by
  unfold DK Dx at h
  split at h
  · cases hp:BU b z.1 most with
    | none=>rw[hp]at h;cases h;exact Nat.zero_le _
    | some x=>rw[hp]at h;cases h;exact(Er (n:=x.2) hp).2
  · cases h;exact Nat.zero_le _
theorem Ll{σ:Type}{f:List σ ×(Nat × Bool)→List σ ×(Nat × Bool)}(hf:∀s,(f s).1.length=s.1.length+1):∀(n:Nat) (s:List σ ×(Nat × Bool)),(itR f n s).1.length≤s.1.length+n∧(s.2.2=false→itR f n s=s)
  | 0,s=>⟨Nat.le_refl _,fun _=>rfl⟩
  | n+1,s=>by
    have ih:=Ll hf n s
    refine⟨?_,fun h=> ?_⟩
    · show(if(itR f n s).2.2=true then f (itR f n s)else itR f n s).1.length≤_
      split
      · rw[hf];have:=ih.1;omega
      · have:=ih.1;omega
    · show(if(itR f n s).2.2=true then f (itR f n s)else itR f n s)=s
      rw[ih.2 h,if_neg (by rw[h];decide)]
theorem Jf{σ:Type}{f:List σ ×(Nat × Bool)→List σ ×(Nat × Bool)}(hf:∀s,(f s).1.length=s.1.length+1)(b:Bs)(most:Nat)(s:Nat × Bool):(manyR f b most s).1.length≤most:=by
  unfold manyR
  have h:=Ll hf (BM b s).1 (([]:List σ),((BM b s).2.1,(BM b s).2.2&&decide ((BM b s).1≤most)))
  by_cases hm:(BM b s).1≤most
  · have:=h.1
    simp only[List.length_nil]at this
    omega
  · rw[h.2 (by rw[decide_eq_false hm];simp)]
    exact Nat.zero_le _
theorem Lm{σ:Type}{f:List σ ×(Nat × Bool)→List σ ×(Nat × Bool)}{Q:σ→Prop}(hf:∀s,(∀x∈s.1,Q x)→∀x∈(f s).1,Q x):∀(n:Nat) (s:List σ ×(Nat × Bool)),(∀x∈s.1,Q x)→∀x∈(itR f n s).1,Q x
  | 0,_,h=>h
  | n+1,s,h=>by
    have ih:=Lm hf n s h
    show ∀x∈(if(itR f n s).2.2=true then f (itR f n s)else itR f n s).1,Q x
    split
    · exact hf _ ih
    · exact ih
theorem NP(b:Bs):B9 (CH b).1:=by
  have hu:∀s,(manyR (addUpdR b) b 128 s).1.length≤4611686018427387904:=fun s=>Nat.le_trans (Jf (fun s=>by unfold addUpdR;simp) b 128 s) (by decide)
  have hi:∀s,(manyR (C6 b) b 65536 s).1.length≤4611686018427387904:=fun s=>Nat.le_trans (Jf (fun s=>by unfold C6;simp) b 65536 s) (by decide)
  have hn:∀s,∀u∈(manyR (addUpdR b) b 128 s).1,u.name.length≤4611686018427387904:=fun s=>Lm (Q:=fun u:AJ=>u.name.length≤4611686018427387904) (fun t ht u hu=>by
    unfold addUpdR at hu
    rcases List.mem_append.1 hu with hu | hu
    · exact ht u hu
    · rw[List.mem_singleton.1 hu]
      exact Nat.le_trans (txtR_len (most:=32) (z:=(DB b t.2).2) rfl) (by decide)) _ _ (fun x hx=>by cases hx)
  have ht:∀most s,most≤4611686018427387904→(DK b most s).1.length≤4611686018427387904:=fun most s h=>Nat.le_trans (txtR_len (most:=most) (z:=s) rfl) h
  unfold CH CO
  split
  · exact⟨hu _,hn _,Nat.zero_le _,Nat.zero_le _,Nat.zero_le _⟩
  · split
    · exact⟨Nat.zero_le _,fun u hu=>(by cases hu),hi _,hi _,Nat.zero_le _⟩
    · split
      · exact⟨Nat.zero_le _,fun u hu=>(by cases hu),Nat.zero_le _,Nat.zero_le _,Nat.zero_le _⟩
      · split
        · exact⟨Nat.zero_le _,fun u hu=>(by cases hu),Nat.zero_le _,Nat.zero_le _,Nat.zero_le _⟩
        · split
          · exact⟨Nat.zero_le _,fun u hu=>(by cases hu),Nat.zero_le _,Nat.zero_le _,Nat.zero_le _⟩
          · split
            · exact⟨Nat.zero_le _,fun u hu=>(by cases hu),Nat.zero_le _,Nat.zero_le _,ht 32 _ (by decide)⟩
            · split
              · exact⟨Nat.zero_le _,fun u hu=>(by cases hu),Nat.zero_le _,Nat.zero_le _,Nat.zero_le _⟩
              · exact⟨Nat.zero_le _,fun u hu=>(by cases hu),Nat.zero_le _,Nat.zero_le _,Nat.zero_le _⟩
abbrev Ay(v:Value)(b:Bs)(i:Nat)(k:Bool):Ch:=(⟨b,((i:Nat):Int),k⟩,⟨v⟩)
open Go.RowKit
set_option maxRecDepth 100000
theorem Ln{b:Bs}{s:Nat × Bool}{c:Nat}{t:Nat × Bool}(h:BM b s=(c,t)):c<9223372036854775808:=by
 unfold BM Dx at h
 split at h
 ·cases hp:Bk b s.1 with
  | none=>rw[hp]at h;cases h;decide
  | some x=>rw[hp]at h;cases h;exact GQ (n:=x.2) hp
 ·cases h;decide
theorem RB.new{w:World}{v:Value}{b:Bs}{r:Nat}(hr:RB w v b)(h:w.heap.size≤r):b= []∨OB v r:=by
 rcases b with _ | ⟨b0,b1⟩
 ·exact .inl rfl
 ·exact .inr fun e=>by have:=RB.lt hr (by simp) e;omega
structure Na (X : Ah) (g : Nat) : Prop where
 refs:OB X.2.refs g
 wants:OB X.2.wants g
 haves:OB X.2.haves g
 bytes:OB X.2.bytes g
theorem MsgAt.off{w w' :World}{X:Ah}{g:Nat}(h:MsgAt w X)(ho:Na X g)(hg:w.grownBy w' (some g)):MsgAt w' X:=
 ⟨h.refs.kept hg (.inr ho.refs),h.wants.kept hg (.inr ho.wants),h.haves.kept hg (.inr ho.haves),h.bytes.kept hg (.inr ho.bytes)⟩
theorem Dn:AN Tryd.prog 117:=fun _ _=>by kernel_rfl
theorem A1:A5 Tryd.prog 115 2 2:=fun b o w=>by simp[go_sem]
theorem Bj:A5 Tryd.prog 115 1 1:=fun b o w=>by simp[go_sem]
theorem BB:A5 Tryd.prog 115 0 0:=fun b o w=>by simp[go_sem]
theorem Ek:AN Tryd.prog 118:=fun _ _=>by kernel_rfl
theorem F7:AN Tryd.prog 119:=fun _ _=>by kernel_rfl
theorem Nb:AN Tryd.prog 69:=fun _ _=>by kernel_rfl
theorem Nc:AN Tryd.prog 71:=fun _ _=>by kernel_rfl
theorem Nd:∀(cs:Array Value),cs.size=32→∀w:World,(Instr.buildSlice 23 1 #[(0, .agg cs)]).run Tryd.prog w = .ok (.slice (some ⟨w.heap.size,0,none⟩) 1 1) (w.alloc (.cells cs 25))
 | ⟨[c0,c1,c2,c3,c4,c5,c6,c7,c8,c9,c10,c11,c12,c13,c14,c15,c16,c17,c18,c19,c20,c21,c22,c23,c24,c25,c26,c27,c28,c29,c30,c31]⟩,_,w=>ND c0 c1 c2 c3 c4 c5 c6 c7 c8 c9 c10 c11 c12 c13 c14 c15 c16 c17 c18 c19 c20 c21 c22 c23 c24 c25 c26 c27 c28 c29 c30 c31 w
set_option maxHeartbeats 1600000
theorem Do(w:World)(v:Value)(l:List UInt8)(hr:RB w v l)(a:Nat)(ha:a≤l.length)(hl:l.length≤1073741824):
  Calls Tryd.prog 117 #[v,NI a] w fun e w' =>e = .returned (Du a (AQ 0 (l.drop a)))∧Ext w w' :=by
 refine calls_of_wpF (args:= [v,NI a]) Tryd.func117 rfl 71 rfl (Nat.le_of_ble_eq_true rfl) ?_
 intro s hb
 have g:s 0=(v:Value):=hb.get 0
 have f:s 1=(NI a:Value):=hb.get 1
 clear hb
 have hE:=Ext.refl w
 refine sk fun K1 af=>(wt (oA rfl (oA rfl (oA rfl (oZ (tN (af _ _ (sk fun K2 ag=>(sk fun K3 ah=>(wt (oM rfl (oS rfl (Yk.eqI (a:=(a:Nat)) (b:=(0:Nat)) f rfl (A0 _ _ _ _) (oM rfl (oY (d:=12) rfl rfl (vr (.bool (false)) (congrArg Value.bool (decide_eq_false (by omega)))) (Yk.move f (oY (d:=12) rfl rfl (vr (.bool (false)) (congrArg Value.bool (decide_eq_false (by omega)))) (Yk.move g (oY (d:=12) rfl rfl (vr (.bool (false)) (congrArg Value.bool (decide_eq_false (by omega)))) (Yk.lenRB El (RB.of (hr.keep hE) (vr v rfl)) ?_))))))))))))))))))))
 refine oY (d:=12) rfl rfl (vr (.bool (false)) (congrArg Value.bool (decide_eq_false (by omega)))) (Yk.eqI (a:=(a:Nat)) (b:=(l.length:Nat)) rfl rfl (k_gtr _ _ _ _) (oS rfl (Yk.pickF (vr (.bool (false)) (congrArg Value.bool (decide_eq_false (by omega)))) (vr (.bool (false)) (congrArg Value.bool (decide_eq_false (by omega)))) (oZ (tN (ah _ _ (Am (vr (.bool (false)) rfl) (Ak (tN (ag _ _ (sk fun K4 u=>(sk fun K5 ai=>(wt (oA rfl (Bp [(0,v),(1,NI a),(4,NI 0),(5,NI 0),(6,NI 0),(7,NI 1),(17, .bool (false))] ⟨g,f,rfl,rfl,rfl,rfl,rfl,trivial⟩ fun bs ⟨g,f,T4,T5,T6,c,k,_⟩=>(tN (ai _ _ (AA (Bu (fun(ρ:As) (wz:World)=>∃j:Nat,ρ 0=(v:Value)∧ρ 1=(NI a:Value)∧ρ 17=(.bool (false):Value)∧ρ 7=(NI (j+1):Value)∧Ext w wz∧(j≤9)∧(j≤l.length-a)∧(∀t,t<j→128≤((l.drop a).getD t 0).toNat)∧True) (fun ρ _=>10-(intOf (ρ 7)).toNat) ⟨0,g,f,k,c,hE,by omega,by omega,fun t ht=>by omega,trivial⟩ ?_)))))))))))))))))))
 clear hE
 rintro aj w8 ⟨j,g,f,k,c,hE,hj,hjl,hbig,-⟩
 have q7:=c
 by_cases g1:j<9
 ·by_cases g2:j<l.length-a
  ·have hix:l.getD (a+(j+1)-1) 0=(l.drop a).getD j 0:=by rw[F4];congr 1
   have hld:(l.drop a).length=l.length-a:=List.length_drop
   refine sk fun K9 ak=>(sk fun bz al=>(wt (oM rfl (oS rfl (Yk.eqI (a:=(j+1:Nat)) (b:=(9:Nat)) c rfl (CC _ _ _ _) (oM rfl (oY (d:=20) rfl rfl (vr (.bool (true)) (congrArg Value.bool (decide_eq_true (by omega)))) (Yk.move c (oY (d:=20) rfl rfl (vr (.bool (true)) (congrArg Value.bool (decide_eq_true (by omega)))) (Yk.move g (oY (d:=20) rfl rfl (vr (.bool (true)) (congrArg Value.bool (decide_eq_true (by omega)))) (Yk.lenRB El (RB.of (hr.keep hE) (vr v rfl)) (oY (d:=20) rfl rfl (vr (.bool (true)) (congrArg Value.bool (decide_eq_true (by omega)))) (Yk.move f (oY (d:=20) rfl rfl (vr (.bool (true)) (congrArg Value.bool (decide_eq_true (by omega)))) (Yk.bin (xv:=NI l.length) (yv:=NI a) rfl rfl rfl (BE _ _ _ (by omega) (by omega)) (oY (d:=20) rfl rfl (vr (.bool (true)) (congrArg Value.bool (decide_eq_true (by omega)))) (Yk.eqI (a:=(j+1:Nat)) (b:=((l.length)-(a):Nat)) rfl rfl (CC _ _ _ _) (oS rfl (Yk.pickT (vr (.bool (true)) (congrArg Value.bool (decide_eq_true (by omega)))) (vr (.bool (true)) (congrArg Value.bool (decide_eq_true (by omega)))) (oZ (tN (al _ _ (At (vr (.bool (true)) rfl) ?_))))))))))))))))))))))))
   refine Ak (tN (ak _ _ (sk fun b0 am=>(AA (sk fun b1 x=>(sk fun b2 an=>(wt (oM rfl (oM rfl (oM rfl (oS rfl (Yk.bin (xv:=NI a) (yv:=NI (j+1)) f c rfl (Be _ _ _ (by omega)) (oS rfl (Yk.bin (xv:=NI ((a)+(j+1))) (yv:=NI 1) rfl rfl rfl (BE _ _ _ (by omega) (by omega)) (oS rfl (Yk.atRB (l:=l) (i:=((a)+(j+1))-(1)) El Lt (RB.of (hr.keep hE) g) (vr (NI (((a)+(j+1))-(1))) rfl) (by omega) fun ao y=>(oS rfl (Yk.loadC u5 rfl (PCell.of y (vr ao rfl)) (oS rfl (Yk.eqI (a:=((l.getD (((a)+(j+1))-(1)) 0).toNat:Nat)) (b:=(128:Nat)) rfl rfl (EJ _ _ _ _) (oZ ?_)))))))))))))))))))))
   clear y
   refine tN (an _ _ ?_)
   refine AX ((128)≤((l.getD (((a)+(j+1))-(1)) 0).toNat)) (vr (.bool (decide ((128)≤((l.getD (((a)+(j+1))-(1)) 0).toNat)))) rfl) (fun aa=> ?_) (fun aa=> ?_)
   ·refine Bm (Ax (AS (tN (am _ _ (wt (oM rfl (oS rfl (Yk.bin (xv:=NI (j+1)) (yv:=NI 1) c rfl rfl (Be _ _ _ (by omega)) (oA rfl (Bp [(0,v),(1,NI a),(7,NI ((j+1)+(1))),(17, .bool (false)),(27, .bool (true))] ⟨g,f,rfl,k,rfl,trivial⟩ fun ap ⟨g,f,c,k,o,_⟩=>(tN (And.intro ⟨j+1,g,f,k,c,hE,by omega,by omega,fun t ht=>by by_cases e:t=j;(rw[e,←hix];exact aa);exact hbig t (by omega),trivial⟩ ?_))))))))))))
    show 10-(intOf (ap 7)).toNat<10-(intOf (aj 7)).toNat
    rw[c,q7]
    simp only[intOf,Int.toNat_natCast];omega
   by_cases z1:1<j+1
   ·refine Ak (tN (x _ _ (sk fun b3 aq=>(sk fun b4 ar=>(wt (oM rfl (oS rfl (Yk.eqI (a:=(j+1:Nat)) (b:=(1:Nat)) c rfl (k_gtr _ _ _ _) (oM rfl (oY (d:=40) rfl rfl (vr (.bool (true)) (congrArg Value.bool (decide_eq_true (z1)))) (Yk.move g (oY (d:=40) rfl rfl (vr (.bool (true)) (congrArg Value.bool (decide_eq_true (z1)))) (Yk.move f (oY (d:=40) rfl rfl (vr (.bool (true)) (congrArg Value.bool (decide_eq_true (z1)))) (Yk.move c (oY (d:=40) rfl rfl (vr (.bool (true)) (congrArg Value.bool (decide_eq_true (z1)))) (Yk.bin (xv:=NI a) (yv:=NI (j+1)) rfl rfl rfl (Be _ _ _ (by omega)) (oY (d:=40) rfl rfl (vr (.bool (true)) (congrArg Value.bool (decide_eq_true (z1)))) (Yk.bin (xv:=NI ((a)+(j+1))) (yv:=NI 1) rfl rfl rfl (BE _ _ _ (by omega) (by omega)) (oY (d:=40) rfl rfl (vr (.bool (true)) (congrArg Value.bool (decide_eq_true (z1)))) (Yk.atRB (l:=l) (i:=((a)+(j+1))-(1)) El Lt (RB.of (hr.keep hE) (vr v rfl)) (vr (NI (((a)+(j+1))-(1))) rfl) (by omega) fun au ab=>(oY (d:=40) rfl rfl (vr (.bool (true)) (congrArg Value.bool (decide_eq_true (z1)))) (Yk.loadC u5 rfl (PCell.of ab (vr au rfl)) (oY (d:=40) rfl rfl (vr (.bool (true)) (congrArg Value.bool (decide_eq_true (z1)))) (Yk.eqI (a:=((l.getD (((a)+(j+1))-(1)) 0).toNat:Nat)) (b:=(0:Nat)) rfl rfl (k_eql _ _ _ _) ?_)))))))))))))))))))))))))
    refine oS rfl (Yk.pickT (vr (.bool (true)) (congrArg Value.bool (decide_eq_true (z1)))) (vr (.bool (decide (((l.getD (((a)+(j+1))-(1)) 0).toNat:Nat)=(0)))) rfl) (oZ ?_))
    clear ab
    refine tN (ar _ _ ?_)
    refine AX (((l.getD (((a)+(j+1))-(1)) 0).toNat:Nat)=(0)) (vr (.bool (decide (((l.getD (((a)+(j+1))-(1)) 0).toNat:Nat)=(0)))) rfl) (fun ac=> ?_) (fun ac=> ?_)
    ·refine sk fun b5 av=>(wt (oA rfl (oA rfl (oA rfl (oZ (tN (av _ _ (Ao (Ap (AM (Ap (Ap (AM (Ap (An (fn:=Tryd.f117) _ rfl [NI 0,NI 0,NI 6] (.tuple #[NI 0,NI 0,NI 6]) rfl ⟨rfl,rfl,rfl,trivial⟩ ?_)))))))))))))))
     have hno:AQ 0 (l.drop a)=none:=Hb j 0 _ hbig (by omega) (by rw[←hix];exact ac) (by omega)
     rw[hno]
     exact⟨rfl,hE⟩
    refine Ak (tN (aq _ _ (sk fun b6 aw=>(wt (oA rfl (oZ (tN (aw _ _ (sk fun b7 ax=>(sk fun b8 ay=>(wt (oM rfl (oS rfl (Yk.bin (xv:=NI (j+1)) (yv:=NI 1) c rfl rfl (BE _ _ _ (by omega) (by omega)) (oA rfl (Bp [(0,v),(1,NI a),(7,NI (j+1)),(8,NI 0),(9,NI ((j+1)-(1))),(17, .bool (false)),(27, .bool (true))] ⟨g,f,c,rfl,rfl,k,rfl,trivial⟩ fun b9 ⟨g,f,c,m,h,k,o,_⟩=>(tN (ay _ _ (AA ?_)))))))))))))))))))
    refine Bu (fun(ρ:As) (wz:World)=>∃i:Nat,∃n:Nat,ρ 0=(v:Value)∧ρ 1=(NI a:Value)∧ρ 7=(NI (j+1):Value)∧ρ 17=(.bool (false):Value)∧ρ 27=(.bool (true):Value)∧ρ 9=(.int .i64 ((i:Int)-1:Int):Value)∧ρ 8=(NI n:Value)∧Ext w wz∧(i≤j+1)∧(n=D4 (((l.drop a).take (j+1)).drop i))∧True) (fun ρ _=>((match (ρ 9)with | .int _ z=>z+1 | _=>0):Int).toNat) ⟨j+1,0,g,f,c,k,o,(show _=_ from h.trans (congrArg (Value.int .i64) (by omega))),m,hE,Nat.le_refl _,by rw[List.drop_of_length_le (by rw[List.length_take];omega)];rfl,trivial⟩ ?_
    clear hE
    rintro az ca ⟨i,n,g,f,c,k,o,h,m,hE,hij,hn,-⟩
    have q9:=h
    refine sk fun cb a0=>(sk fun cc a1=>(wt (oM rfl (oS rfl (Yk.eqI h (vr (NI 0) rfl) (FM _ .i64 ((i:Int)-1:Int) ((0:Nat):Int)) (Bp [(0,v),(1,NI a),(7,NI (j+1)),(8,NI n),(9, .int .i64 ((i:Int)-1:Int)),(17, .bool (false)),(27, .bool (true)),(53, .bool (decide (((0:Nat):Int)≤((i:Int)-1:Int))))] ⟨g,f,c,m,h,k,o,rfl,trivial⟩ fun cd ⟨g,f,c,m,h,k,o,q,_⟩=>(tN (a1 _ _ ?_))))))))
    refine AX (((0:Nat):Int)≤((i:Int)-1:Int)) q (fun r=> ?_) (fun r=> ?_)
    ·have hi1:1≤i:=by omega
     have hvl:=IB (((l.drop a).take (j+1)).drop i)
     have hpw:128^(((l.drop a).take (j+1)).drop i).length≤128^8:=Nat.pow_le_pow_right (by decide) (by rw[List.length_drop,List.length_take];omega)
     have hnb:n<128^8:=by rw[hn];exact Nat.lt_of_lt_of_le hvl hpw
     have h:=h.trans (congrArg (Value.int .i64) (show((i:Int)-1:Int)=((i-1:Nat):Int) by omega))
     refine Ak (tN (a0 _ _ (sk fun ce a2=>(AA (wt (oM rfl (oS rfl (Yk.bin (xv:=NI n) (yv:=NI 128) m rfl rfl (KY _ _ _ (by omega)) (oM rfl (oM rfl (oM rfl (oS rfl (Yk.bin (xv:=NI a) (yv:=NI (i-1)) f h rfl (Be _ _ _ (by omega)) (oS rfl (Yk.atRB (l:=l) (i:=(a)+(i-1)) El Lt (RB.of (hr.keep hE) g) (vr (NI ((a)+(i-1))) rfl) (by omega) fun a3 ad=>(oS rfl (Yk.loadC u5 rfl (PCell.of ad (vr a3 rfl)) (oS rfl (Yk.convI u5 FI (vr (B8 (l.getD ((a)+(i-1)) 0)) rfl) (L9 .i64 (l.getD ((a)+(i-1)) 0) (fun n hn=>E0 n (by omega))) (oS rfl (Yk.bin (xv:=NI ((l.getD ((a)+(i-1)) 0).toNat)) (yv:=NI 128) rfl rfl rfl (KZ _ _ _ (by decide)) (oS rfl (Yk.bin (xv:=NI ((n)*(128))) (yv:=NI (((l.getD ((a)+(i-1)) 0).toNat)%(128))) rfl rfl rfl (Be _ _ _ (by omega)) ?_)))))))))))))))))))))))
     refine oA rfl (oZ ?_)
     clear ad
     refine bN (tN (a2 _ _ (wt (oM rfl (oS rfl (Yk.bin (xv:=NI (i-1)) (yv:=NI 1) h rfl rfl (Lj _ (i-1) (by omega)) (oA rfl (Bp [(0,v),(1,NI a),(7,NI (j+1)),(8,NI (((n)*(128))+(((l.getD ((a)+(i-1)) 0).toNat)%(128)))),(9, .int .i64 (((i-1:Nat):Int)-1:Int)),(17, .bool (false)),(27, .bool (true))] ⟨g,f,c,rfl,rfl,k,o,trivial⟩ fun a4 ⟨g,f,c,m,h,k,o,_⟩=>(tN (And.intro ⟨i-1,n*128+(l.getD (a+(i-1)) 0).toNat%128,g,f,c,k,o,h,m,hE,by omega,by rw[Je _ (i-1) (j+1) (by omega) (by omega),show i-1+1=i by omega,←hn,F4];omega,trivial⟩ ?_))))))))))
     show((match (a4 9)with | .int _ z=>z+1 | _=>0):Int).toNat<((match (az 9)with | .int _ z=>z+1 | _=>0):Int).toNat
     rw[h,q9]
     simp only[Int.sub_add_cancel];omega
    have hi0:i=0:=by omega
    refine Bm (Ax (Ax (AS (tN (ax _ _ (sk fun cf a5=>(wt (oM rfl (oM rfl (oM rfl (oS rfl (Yk.bin (xv:=NI a) (yv:=NI (j+1)) f c rfl (Be _ _ _ (by omega)) (oA rfl (oA rfl (oA rfl (oZ (tN (a5 _ _ (Ao (AM (Ap (Ap (AM (Ap (An (fn:=Tryd.f117) _ rfl [NI n,NI ((a)+(j+1)),NI 0] (.tuple #[NI n,NI ((a)+(j+1)),NI 0]) rfl ⟨m,rfl,rfl,trivial⟩ ?_)))))))))))))))))))))))))
    have hyes:AQ 0 (l.drop a)=some (D4 ((l.drop a).take (j+1)),j+1):=F5 j 0 _ hbig (by omega) (by rw[←hix];omega) (by omega) (by rw[←hix];omega)
    rw[hi0,List.drop_zero]at hn
    rw[hyes,←hn]
    exact⟨rfl,hE⟩
   refine Ak (tN (x _ _ (sk fun cg a6=>(sk fun ch a7=>(wt (oM rfl (oS rfl (Yk.eqI (a:=(j+1:Nat)) (b:=(1:Nat)) c rfl (k_gtr _ _ _ _) (oM rfl (oN (d:=40) rfl rfl rfl (vr (.bool (false)) (congrArg Value.bool (decide_eq_false (z1)))) rfl (oN (d:=40) rfl rfl rfl (vr (.bool (false)) (congrArg Value.bool (decide_eq_false (z1)))) rfl (oN (d:=40) rfl rfl rfl (vr (.bool (false)) (congrArg Value.bool (decide_eq_false (z1)))) rfl (oN (d:=40) rfl rfl rfl (vr (.bool (false)) (congrArg Value.bool (decide_eq_false (z1)))) rfl (oN (d:=40) rfl rfl rfl (vr (.bool (false)) (congrArg Value.bool (decide_eq_false (z1)))) rfl (oN (d:=40) rfl rfl rfl (vr (.bool (false)) (congrArg Value.bool (decide_eq_false (z1)))) rfl (oN (d:=40) rfl rfl rfl (vr (.bool (false)) (congrArg Value.bool (decide_eq_false (z1)))) rfl (oN (d:=40) rfl rfl rfl (vr (.bool (false)) (congrArg Value.bool (decide_eq_false (z1)))) rfl ?_)))))))))))))))))
   refine oS rfl (Yk.pickF (vr (.bool (false)) (congrArg Value.bool (decide_eq_false (z1)))) (vr (.bool (false)) rfl) (oZ (tN (a7 _ _ (Am (vr (.bool (false)) rfl) (Ak (tN (a6 _ _ (sk fun ci a8=>(wt (oA rfl (oZ (tN (a8 _ _ (sk fun cj a9=>(sk fun ck ba=>(wt (oM rfl (oS rfl (Yk.bin (xv:=NI (j+1)) (yv:=NI 1) c rfl rfl (BE _ _ _ (by omega) (by omega)) ?_))))))))))))))))))))
   refine oA rfl (Bp [(0,v),(1,NI a),(7,NI (j+1)),(8,NI 0),(9,NI ((j+1)-(1))),(17, .bool (false)),(27, .bool (true)),(49, .bool (false))] ⟨g,f,c,rfl,rfl,k,rfl,rfl,trivial⟩ fun cl ⟨g,f,c,m,h,k,o,p,_⟩=>(tN (ba _ _ (AA (Bu (fun(ρ:As) (wz:World)=>∃i:Nat,∃n:Nat,ρ 0=(v:Value)∧ρ 1=(NI a:Value)∧ρ 7=(NI (j+1):Value)∧ρ 17=(.bool (false):Value)∧ρ 27=(.bool (true):Value)∧ρ 49=(.bool (false):Value)∧ρ 9=(.int .i64 ((i:Int)-1:Int):Value)∧ρ 8=(NI n:Value)∧Ext w wz∧(i≤j+1)∧(n=D4 (((l.drop a).take (j+1)).drop i))∧True) (fun ρ _=>((match (ρ 9)with | .int _ z=>z+1 | _=>0):Int).toNat) ⟨j+1,0,g,f,c,k,o,p,(show _=_ from h.trans (congrArg (Value.int .i64) (by omega))),m,hE,Nat.le_refl _,by rw[List.drop_of_length_le (by rw[List.length_take];omega)];rfl,trivial⟩ ?_)))))
   clear hE
   rintro bb cm ⟨i,n,g,f,c,k,o,p,h,m,hE,hij,hn,-⟩
   have q9:=h
   refine sk fun cn bc=>(sk fun co bd=>(wt (oM rfl (oS rfl (Yk.eqI h (vr (NI 0) rfl) (FM _ .i64 ((i:Int)-1:Int) ((0:Nat):Int)) (Bp [(0,v),(1,NI a),(7,NI (j+1)),(8,NI n),(9, .int .i64 ((i:Int)-1:Int)),(17, .bool (false)),(27, .bool (true)),(49, .bool (false)),(53, .bool (decide (((0:Nat):Int)≤((i:Int)-1:Int))))] ⟨g,f,c,m,h,k,o,p,rfl,trivial⟩ fun cp ⟨g,f,c,m,h,k,o,p,q,_⟩=>(tN (bd _ _ ?_))))))))
   refine AX (((0:Nat):Int)≤((i:Int)-1:Int)) q (fun r=> ?_) (fun r=> ?_)
   ·have hi1:1≤i:=by omega
    have hvl:=IB (((l.drop a).take (j+1)).drop i)
    have hpw:128^(((l.drop a).take (j+1)).drop i).length≤128^8:=Nat.pow_le_pow_right (by decide) (by rw[List.length_drop,List.length_take];omega)
    have hnb:n<128^8:=by rw[hn];exact Nat.lt_of_lt_of_le hvl hpw
    have h:=h.trans (congrArg (Value.int .i64) (show((i:Int)-1:Int)=((i-1:Nat):Int) by omega))
    refine Ak (tN (bc _ _ (sk fun cq be=>(AA (wt (oM rfl (oS rfl (Yk.bin (xv:=NI n) (yv:=NI 128) m rfl rfl (KY _ _ _ (by omega)) (oM rfl (oM rfl (oM rfl (oS rfl (Yk.bin (xv:=NI a) (yv:=NI (i-1)) f h rfl (Be _ _ _ (by omega)) (oS rfl (Yk.atRB (l:=l) (i:=(a)+(i-1)) El Lt (RB.of (hr.keep hE) g) (vr (NI ((a)+(i-1))) rfl) (by omega) fun bf ae=>(oS rfl (Yk.loadC u5 rfl (PCell.of ae (vr bf rfl)) (oS rfl (Yk.convI u5 FI (vr (B8 (l.getD ((a)+(i-1)) 0)) rfl) (L9 .i64 (l.getD ((a)+(i-1)) 0) (fun n hn=>E0 n (by omega))) (oS rfl (Yk.bin (xv:=NI ((l.getD ((a)+(i-1)) 0).toNat)) (yv:=NI 128) rfl rfl rfl (KZ _ _ _ (by decide)) (oS rfl (Yk.bin (xv:=NI ((n)*(128))) (yv:=NI (((l.getD ((a)+(i-1)) 0).toNat)%(128))) rfl rfl rfl (Be _ _ _ (by omega)) ?_)))))))))))))))))))))))
    refine oA rfl (oZ ?_)
    clear ae
    refine bN (tN (be _ _ (wt (oM rfl (oS rfl (Yk.bin (xv:=NI (i-1)) (yv:=NI 1) h rfl rfl (Lj _ (i-1) (by omega)) (oA rfl (Bp [(0,v),(1,NI a),(7,NI (j+1)),(8,NI (((n)*(128))+(((l.getD ((a)+(i-1)) 0).toNat)%(128)))),(9, .int .i64 (((i-1:Nat):Int)-1:Int)),(17, .bool (false)),(27, .bool (true)),(49, .bool (false))] ⟨g,f,c,rfl,rfl,k,o,p,trivial⟩ fun bg ⟨g,f,c,m,h,k,o,p,_⟩=>(tN (And.intro ⟨i-1,n*128+(l.getD (a+(i-1)) 0).toNat%128,g,f,c,k,o,p,h,m,hE,by omega,by rw[Je _ (i-1) (j+1) (by omega) (by omega),show i-1+1=i by omega,←hn,F4];omega,trivial⟩ ?_))))))))))
    show((match (bg 9)with | .int _ z=>z+1 | _=>0):Int).toNat<((match (bb 9)with | .int _ z=>z+1 | _=>0):Int).toNat
    rw[h,q9]
    simp only[Int.sub_add_cancel];omega
   have hi0:i=0:=by omega
   refine Bm (Ax (Ax (AS (tN (a9 _ _ (sk fun cr bh=>(wt (oM rfl (oM rfl (oM rfl (oS rfl (Yk.bin (xv:=NI a) (yv:=NI (j+1)) f c rfl (Be _ _ _ (by omega)) (oA rfl (oA rfl (oA rfl (oZ (tN (bh _ _ (Ao (AM (Ap (Ap (AM (Ap (An (fn:=Tryd.f117) _ rfl [NI n,NI ((a)+(j+1)),NI 0] (.tuple #[NI n,NI ((a)+(j+1)),NI 0]) rfl ⟨m,rfl,rfl,trivial⟩ ?_)))))))))))))))))))))))))
   have hyes:AQ 0 (l.drop a)=some (D4 ((l.drop a).take (j+1)),j+1):=F5 j 0 _ hbig (by omega) (by rw[←hix];omega) (by omega) (by rw[←hix];omega)
   rw[hi0,List.drop_zero]at hn
   rw[hyes,←hn]
   exact⟨rfl,hE⟩
  have hno:AQ 0 (l.drop a)=none:=Fy j 0 _ (by omega) hbig (.inl (by rw[List.length_drop];omega))
  refine sk fun cs ct=>(sk fun cu bi=>(wt (oM rfl (oS rfl (Yk.eqI (a:=(j+1:Nat)) (b:=(9:Nat)) c rfl (CC _ _ _ _) (oM rfl (oY (d:=20) rfl rfl (vr (.bool (true)) (congrArg Value.bool (decide_eq_true (by omega)))) (Yk.move c (oY (d:=20) rfl rfl (vr (.bool (true)) (congrArg Value.bool (decide_eq_true (by omega)))) (Yk.move g (oY (d:=20) rfl rfl (vr (.bool (true)) (congrArg Value.bool (decide_eq_true (by omega)))) (Yk.lenRB El (RB.of (hr.keep hE) (vr v rfl)) (oY (d:=20) rfl rfl (vr (.bool (true)) (congrArg Value.bool (decide_eq_true (by omega)))) (Yk.move f (oY (d:=20) rfl rfl (vr (.bool (true)) (congrArg Value.bool (decide_eq_true (by omega)))) (Yk.bin (xv:=NI l.length) (yv:=NI a) rfl rfl rfl (BE _ _ _ (by omega) (by omega)) (oY (d:=20) rfl rfl (vr (.bool (true)) (congrArg Value.bool (decide_eq_true (by omega)))) (Yk.eqI (a:=(j+1:Nat)) (b:=((l.length)-(a):Nat)) rfl rfl (CC _ _ _ _) (oS rfl (Yk.pickT (vr (.bool (true)) (congrArg Value.bool (decide_eq_true (by omega)))) (vr (.bool (false)) (congrArg Value.bool (decide_eq_false (by omega)))) (oZ (tN (bi _ _ (Am (vr (.bool (false)) rfl) ?_))))))))))))))))))))))))
  refine Bm (Ax (Ax (AS (tN (u _ _ (sk fun cv bj=>(wt (oA rfl (oA rfl (oA rfl (oZ (tN (bj _ _ (Ao (An (fn:=Tryd.f117) _ rfl [NI 0,NI 0,NI 6] (.tuple #[NI 0,NI 0,NI 6]) rfl ⟨rfl,rfl,rfl,trivial⟩ ?_)))))))))))))))
  rw[hno]
  exact⟨rfl,hE⟩
 have hno:AQ 0 (l.drop a)=none:=Fy j 0 _ (by omega) hbig (.inr (by omega))
 refine sk fun cw cx=>(sk fun cy bk=>(wt (oM rfl (oS rfl (Yk.eqI (a:=(j+1:Nat)) (b:=(9:Nat)) c rfl (CC _ _ _ _) (oM rfl (oN (d:=20) rfl rfl rfl (vr (.bool (false)) (congrArg Value.bool (decide_eq_false (by omega)))) rfl (oN (d:=20) rfl rfl rfl (vr (.bool (false)) (congrArg Value.bool (decide_eq_false (by omega)))) rfl (oN (d:=20) rfl rfl rfl (vr (.bool (false)) (congrArg Value.bool (decide_eq_false (by omega)))) rfl (oN (d:=20) rfl rfl rfl (vr (.bool (false)) (congrArg Value.bool (decide_eq_false (by omega)))) rfl (oN (d:=20) rfl rfl rfl (vr (.bool (false)) (congrArg Value.bool (decide_eq_false (by omega)))) rfl (oN (d:=20) rfl rfl rfl (vr (.bool (false)) (congrArg Value.bool (decide_eq_false (by omega)))) rfl (oS rfl (Yk.pickF (vr (.bool (false)) (congrArg Value.bool (decide_eq_false (by omega)))) (vr (.bool (false)) rfl) (oZ (tN (bk _ _ (Am (vr (.bool (false)) rfl) ?_))))))))))))))))))
 refine Bm (Ax (Ax (AS (tN (u _ _ (sk fun cz bm=>(wt (oA rfl (oA rfl (oA rfl (oZ (tN (bm _ _ (Ao (An (fn:=Tryd.f117) _ rfl [NI 0,NI 0,NI 6] (.tuple #[NI 0,NI 0,NI 6]) rfl ⟨rfl,rfl,rfl,trivial⟩ ?_)))))))))))))))
 rw[hno]
 exact⟨rfl,hE⟩

theorem KT(w:World)(v:Value)(l:List UInt8)(hr:RB w v l)(a:Nat)(ha:a≤l.length)(hl:l.length≤1073741824):
  Calls Tryd.prog 117 #[v,NI a] w fun e w' =>e = .returned (.tuple #[NI (Bn l a).1,NI (Bn l a).2.1,NI (Bn l a).2.2])∧Ext w w' :=by
 have h:=Do w v l hr a ha hl
 have e:Du a (AQ 0 (l.drop a)) = .tuple #[NI (Bn l a).1,NI (Bn l a).2.1,NI (Bn l a).2.2]:=by
  unfold Bn
  cases AQ 0 (l.drop a) <;> rfl
 rwa [e]at h

theorem Dh(w:World)(v:Value)(l:Bs)(hr:RB w v l)(a mx:Nat)(ha:a≤l.length)(hl:l.length≤1073741824):
  Calls Tryd.prog 118 #[v,NI a,NI mx] w fun e w' =>e = .returned (.tuple #[St (AE l a mx).1,NI (AE l a mx).2.1,NI (AE l a mx).2.2])∧Ext w w' :=by
 refine calls_of_wpF (args:= [v,NI a,NI mx]) Tryd.func118 rfl 41 rfl (Nat.le_of_ble_eq_true rfl) ?_
 intro j hb
 have c:j 0=(v:Value):=hb.get 0
 have g:j 1=(NI a:Value):=hb.get 1
 have m:j 2=(NI mx:Value):=hb.get 2
 clear hb
 have hE:=Ext.refl w
 refine sk fun K1 i=>(wt (oA rfl (oA rfl (oA rfl (oZ ?_)))))
 rcases hgl:AQ 0 (l.drop a)with _ | ⟨n,k⟩
 ·have hR:=Gd (mx:=mx) hgl
  refine tN (i _ _ (sk fun K2 o=>(wt (oM rfl (oM rfl (oS rfl (Yk.callA2 Dn c g (((show Calls _ _ _ _ (fun e f=>e = .returned (.tuple #[NI 0,NI 0,NI 6])∧Ext _ f)from by have h:=Do _ v (l) (hr.keep hE) (a) (by omega) (by omega);rw[hgl]at h;exact h)).mono ?_))))))))
  rintro e w4 ⟨rfl,p⟩
  refine⟨_,rfl,?_⟩
  have hE:=hE.trans p
  refine oM rfl (oS rfl (Yk.extract (vs:= [NI 0,NI 0,NI 6]) (vr (.tuple #[NI 0,NI 0,NI 6]) rfl) (show _=some (NI 0:Value)from rfl) (oS rfl (Yk.extract (vs:= [NI 0,NI 0,NI 6]) (vr (.tuple #[NI 0,NI 0,NI 6]) rfl) (show _=some (NI 0:Value)from rfl) (oS rfl (Yk.extract (vs:= [NI 0,NI 0,NI 6]) (vr (.tuple #[NI 0,NI 0,NI 6]) rfl) (show _=some (NI 6:Value)from rfl) (oA rfl (oA rfl (oA rfl (oZ (tN (o _ _ (sk fun K5 az=>(sk fun K6 q=>(wt (oM rfl (oS rfl (Yk.eqI (a:=(6:Nat)) (b:=(0:Nat)) rfl rfl (Ci _ _ _ _) (oZ (tN (q _ _ ?_)))))))))))))))))))))
  refine At (vr (.bool (true)) (congrArg Value.bool (decide_eq_true (by decide)))) (sk fun K7 r=>(wt (oM rfl (oA rfl (oA rfl (oA rfl (oZ (tN (r _ _ (Ao (Ap (An (fn:=Tryd.f118) _ rfl [St (([]:List UInt8)),NI 0,NI 6] (.tuple #[St (([]:List UInt8)),NI 0,NI 6]) rfl ⟨rfl,rfl,rfl,trivial⟩ ?_))))))))))))
  exact⟨by rw[hR],hE⟩
 have hR:=Ge (mx:=mx) hgl
 obtain⟨a2,hak,a3⟩:=GF ha hgl
 by_cases q1:mx<n
 ·rw[if_pos q1]at hR
  refine tN (i _ _ (sk fun K8 s=>(wt (oM rfl (oM rfl (oS rfl (Yk.callA2 Dn c g (((show Calls _ _ _ _ (fun e f=>e = .returned (.tuple #[NI n,NI (a+k),NI 0])∧Ext _ f)from by have h:=Do _ v (l) (hr.keep hE) (a) (by omega) (by omega);rw[hgl]at h;exact h)).mono ?_))))))))
  rintro e a5 ⟨rfl,t⟩
  refine⟨_,rfl,?_⟩
  have hE:=hE.trans t
  refine oM rfl (oS rfl (Yk.extract (vs:= [NI n,NI (a+k),NI 0]) (vr (.tuple #[NI n,NI (a+k),NI 0]) rfl) (show _=some (NI n:Value)from rfl) (oS rfl (Yk.extract (vs:= [NI n,NI (a+k),NI 0]) (vr (.tuple #[NI n,NI (a+k),NI 0]) rfl) (show _=some (NI (a+k):Value)from rfl) (oS rfl (Yk.extract (vs:= [NI n,NI (a+k),NI 0]) (vr (.tuple #[NI n,NI (a+k),NI 0]) rfl) (show _=some (NI 0:Value)from rfl) (oA rfl (oA rfl (oA rfl (oZ (tN (s _ _ (sk fun a6 u=>(sk fun a7 x=>(wt (oM rfl (oS rfl (Yk.eqI (a:=(0:Nat)) (b:=(0:Nat)) rfl rfl (Ci _ _ _ _) (oZ (tN (x _ _ ?_)))))))))))))))))))))
  refine Am (vr (.bool (false)) (congrArg Value.bool (decide_eq_false (by decide)))) (Ak (tN (u _ _ (sk fun a8 a9=>(sk fun ba y=>(wt (oM rfl (oM rfl (oS rfl (Yk.eqI (a:=(n:Nat)) (b:=(mx:Nat)) rfl m (k_gtr _ _ _ _) (oZ (tN (y _ _ (At (vr (.bool (true)) (congrArg Value.bool (decide_eq_true (q1)))) (sk fun bb z=>(wt (oA rfl (oA rfl ?_))))))))))))))))))
  refine oA rfl (oZ (tN (z _ _ (Ao (Ap (An (fn:=Tryd.f118) _ rfl [St (([]:List UInt8)),NI 0,NI 2] (.tuple #[St (([]:List UInt8)),NI 0,NI 2]) rfl ⟨rfl,rfl,rfl,trivial⟩ ?_))))))
  exact⟨by rw[hR],hE⟩
 rw[if_neg q1]at hR
 by_cases q2:l.length-(a+k)<n
 ·rw[if_pos q2]at hR
  refine tN (i _ _ (sk fun bc aa=>(wt (oM rfl (oM rfl (oS rfl (Yk.callA2 Dn c g (((show Calls _ _ _ _ (fun e f=>e = .returned (.tuple #[NI n,NI (a+k),NI 0])∧Ext _ f)from by have h:=Do _ v (l) (hr.keep hE) (a) (by omega) (by omega);rw[hgl]at h;exact h)).mono ?_))))))))
  rintro e bd ⟨rfl,ab⟩
  refine⟨_,rfl,?_⟩
  have hE:=hE.trans ab
  refine oM rfl (oS rfl (Yk.extract (vs:= [NI n,NI (a+k),NI 0]) (vr (.tuple #[NI n,NI (a+k),NI 0]) rfl) (show _=some (NI n:Value)from rfl) (oS rfl (Yk.extract (vs:= [NI n,NI (a+k),NI 0]) (vr (.tuple #[NI n,NI (a+k),NI 0]) rfl) (show _=some (NI (a+k):Value)from rfl) (oS rfl (Yk.extract (vs:= [NI n,NI (a+k),NI 0]) (vr (.tuple #[NI n,NI (a+k),NI 0]) rfl) (show _=some (NI 0:Value)from rfl) (oA rfl (oA rfl (oA rfl (oZ (tN (aa _ _ (sk fun be ac=>(sk fun bf ad=>(wt (oM rfl (oS rfl (Yk.eqI (a:=(0:Nat)) (b:=(0:Nat)) rfl rfl (Ci _ _ _ _) (oZ (tN (ad _ _ ?_)))))))))))))))))))))
  refine Am (vr (.bool (false)) (congrArg Value.bool (decide_eq_false (by decide)))) (Ak (tN (ac _ _ (sk fun bg ae=>(sk fun bh af=>(wt (oM rfl (oM rfl (oS rfl (Yk.eqI (a:=(n:Nat)) (b:=(mx:Nat)) rfl m (k_gtr _ _ _ _) (oZ (tN (af _ _ (Am (vr (.bool (false)) (congrArg Value.bool (decide_eq_false (q1)))) (Ak (tN (ae _ _ (sk fun bi bj=>(sk fun bk ag=> ?_)))))))))))))))))))
  refine wt (oM rfl (oM rfl (oS rfl (Yk.lenRB El (RB.of (hr.keep hE) c) (oM rfl (oS rfl (Yk.bin (xv:=NI l.length) (yv:=NI (a+k)) rfl rfl rfl (BE _ _ _ (by omega) (by omega)) (oS rfl (Yk.eqI (a:=(n:Nat)) (b:=((l.length)-(a+k):Nat)) rfl rfl (k_gtr _ _ _ _) (oZ (tN (ag _ _ (At (vr (.bool (true)) (congrArg Value.bool (decide_eq_true (q2)))) (sk fun bm ah=>(wt (oA rfl (oA rfl (oA rfl (oZ ?_)))))))))))))))))))
  refine tN (ah _ _ (Ao (Ap (An (fn:=Tryd.f118) _ rfl [St (([]:List UInt8)),NI 0,NI 6] (.tuple #[St (([]:List UInt8)),NI 0,NI 6]) rfl ⟨rfl,rfl,rfl,trivial⟩ ?_))))
  exact⟨by rw[hR],hE⟩
 rw[if_neg q2]at hR
 refine tN (i _ _ (sk fun bn ai=>(wt (oM rfl (oM rfl (oS rfl (Yk.callA2 Dn c g (((show Calls _ _ _ _ (fun e f=>e = .returned (.tuple #[NI n,NI (a+k),NI 0])∧Ext _ f)from by have h:=Do _ v (l) (hr.keep hE) (a) (by omega) (by omega);rw[hgl]at h;exact h)).mono ?_))))))))
 rintro e bo ⟨rfl,aj⟩
 refine⟨_,rfl,?_⟩
 have hE:=hE.trans aj
 refine oM rfl (oS rfl (Yk.extract (vs:= [NI n,NI (a+k),NI 0]) (vr (.tuple #[NI n,NI (a+k),NI 0]) rfl) (show _=some (NI n:Value)from rfl) (oS rfl (Yk.extract (vs:= [NI n,NI (a+k),NI 0]) (vr (.tuple #[NI n,NI (a+k),NI 0]) rfl) (show _=some (NI (a+k):Value)from rfl) (oS rfl (Yk.extract (vs:= [NI n,NI (a+k),NI 0]) (vr (.tuple #[NI n,NI (a+k),NI 0]) rfl) (show _=some (NI 0:Value)from rfl) (oA rfl (oA rfl (oA rfl (oZ (tN (ai _ _ (sk fun bp ak=>(sk fun bq al=>(wt (oM rfl (oS rfl (Yk.eqI (a:=(0:Nat)) (b:=(0:Nat)) rfl rfl (Ci _ _ _ _) (oZ (tN (al _ _ ?_)))))))))))))))))))))
 refine Am (vr (.bool (false)) (congrArg Value.bool (decide_eq_false (by decide)))) (Ak (tN (ak _ _ (sk fun br am=>(sk fun bs an=>(wt (oM rfl (oM rfl (oS rfl (Yk.eqI (a:=(n:Nat)) (b:=(mx:Nat)) rfl m (k_gtr _ _ _ _) (oZ (tN (an _ _ (Am (vr (.bool (false)) (congrArg Value.bool (decide_eq_false (q1)))) (Ak (tN (am _ _ (sk fun bt ao=>(sk fun bu ap=> ?_)))))))))))))))))))
 refine wt (oM rfl (oM rfl (oS rfl (Yk.lenRB El (RB.of (hr.keep hE) c) (oM rfl (oS rfl (Yk.bin (xv:=NI l.length) (yv:=NI (a+k)) rfl rfl rfl (BE _ _ _ (by omega) (by omega)) (oS rfl (Yk.eqI (a:=(n:Nat)) (b:=((l.length)-(a+k):Nat)) rfl rfl (k_gtr _ _ _ _) (oZ (tN (ap _ _ (Am (vr (.bool (false)) (congrArg Value.bool (decide_eq_false (q2)))) (Ak (tN (ao _ _ (sk fun bv aq=>(wt (oM rfl (oM rfl ?_))))))))))))))))))))
 refine oM rfl (oM rfl (oS rfl (Yk.bin (xv:=NI (a+k)) (yv:=NI n) rfl rfl rfl (Be _ _ _ (by omega)) (oS rfl (Yk.sliceLH (xs:=l) (l:=a+k) (n:=(a+k)+(n)) El Lt c (hr.keep hE) (vr (NI (a+k)) rfl) (vr (NI ((a+k)+(n))) rfl) (by omega) (by omega) fun ar au ha38=>(oS rfl (Yk.convRB El u5 CD (RB.of au (vr ar rfl)) (oM rfl (oM rfl (oS rfl (Yk.bin (xv:=NI (a+k)) (yv:=NI n) rfl rfl rfl (Be _ _ _ (by omega)) (oA rfl (oA rfl (oA rfl (oZ (tN (aq _ _ (Ao (An (fn:=Tryd.f118) _ rfl [St ((l.drop (a+k)).take (((a+k)+(n))-(a+k))),NI ((a+k)+(n)),NI 0] (.tuple #[St ((l.drop (a+k)).take (((a+k)+(n))-(a+k))),NI ((a+k)+(n)),NI 0]) rfl ⟨rfl,rfl,rfl,trivial⟩ ?_)))))))))))))))))))
 exact⟨by rw[hR,←Jx l (a+k) n],hE⟩

theorem Fa(w:World)(v:Value)(l:Bs)(hr:RB w v l)(a:Nat)(ha:a<4611686018427387904)(hl:l.length≤1073741824):
  Calls Tryd.prog 119 #[v,NI a] w fun e w' =>e = .returned (.tuple #[AB (AR l a).1,NI (AR l a).2.1,NI (AR l a).2.2])∧Ext w w' :=by
 refine calls_of_wpF (args:= [v,NI a]) Tryd.func119 rfl 39 rfl (Nat.le_of_ble_eq_true rfl) ?_
 intro aa hb
 have g:aa 0=(v:Value):=hb.get 0
 have f:aa 1=(NI a:Value):=hb.get 1
 clear hb
 have hE:=Ext.refl w
 refine sk fun K1 ak=>(wt (oS rfl (Yk.alloc (cs:=(Lib.byteCells (List.replicate 32 0)).toArray) Hh fun n u be ab al bf=> ?_)))
 have hE:=hE.trans al
 have c:=ab;clear ab
 have bg:n<u.heap.size:=by omega
 refine oA rfl (oA rfl (oZ (tN (ak _ _ (sk fun bh x=>(wt (oS rfl (Yk.alloc (cs:=(Lib.byteCells (List.replicate 32 0)).toArray) Hh fun k am an ac y bi=> ?_))))))))
 have h:=Ext.refl u
 have ao:=hE.size
 have bj:=Bo (bl c) an
 have hE:=hE.trans y
 have c:=eb y c
 have h:=h.trans y
 have m:=ac;clear ac
 have bk:k<am.heap.size:=by omega
 refine oZ ?_
 by_cases q1:l.length<a
 ·have hR:AR l a=_:=if_pos q1
  refine tN (x _ _ (sk fun bm bn=>(sk fun bo ap=>(wt (oM rfl (oS rfl (Yk.eqI (a:=(a:Nat)) (b:=(0:Nat)) f rfl (A0 _ _ _ _) (oM rfl (oY (d:=11) rfl rfl (vr (.bool (false)) (congrArg Value.bool (decide_eq_false (by omega)))) (Yk.move f (oY (d:=11) rfl rfl (vr (.bool (false)) (congrArg Value.bool (decide_eq_false (by omega)))) (Yk.move g (oY (d:=11) rfl rfl (vr (.bool (false)) (congrArg Value.bool (decide_eq_false (by omega)))) (Yk.lenRB El (RB.of (hr.keep hE) (vr v rfl)) (oY (d:=11) rfl rfl (vr (.bool (false)) (congrArg Value.bool (decide_eq_false (by omega)))) (Yk.eqI (a:=(a:Nat)) (b:=(l.length:Nat)) rfl rfl (k_gtr _ _ _ _) (oS rfl (Yk.pickF (vr (.bool (false)) (congrArg Value.bool (decide_eq_false (by omega)))) (vr (.bool (true)) (congrArg Value.bool (decide_eq_true (q1)))) (oZ (tN (ap _ _ (At (vr (.bool (true)) rfl) (sk fun bp aq=> ?_)))))))))))))))))))))))
  refine wt (oS rfl (Yk.loadAll (vr (PQ k 0) rfl) m NV rfl (by exact Aw List.length_replicate) (oS rfl (Yk.storeAll (vr (PQ n 0) rfl) (vr (AB (List.replicate 32 0)) rfl) c (by exact CL List.length_replicate List.length_replicate) (by exact Aw List.length_replicate) (Av _) fun bq ad ae br=> ?_))))
  have hE:=Ae hE ae (Nat.le_trans (Nat.le_refl _) (by omega))
  clear c
  clear h
  have m:=kb ae m (by omega)
  have c:=ad;clear ad
  have bs:=bl c
  refine oA rfl (oA rfl (oZ (tN (aq _ _ (Ao (Ap (An (fn:=Tryd.f119) _ rfl [AB (List.replicate 32 0),NI 0,NI 1] (.tuple #[AB (List.replicate 32 0),NI 0,NI 1]) rfl ⟨ResF.row rfl c NV rfl (by first | exact Aw hXl | exact Aw List.length_replicate),rfl,rfl,trivial⟩ ?_)))))))
  rw[hR]
  exact⟨rfl,hE⟩
 by_cases q2:l.length-a<32
 ·have hR:AR l a=_:=(if_neg q1).trans (if_pos q2)
  refine tN (x _ _ (sk fun bt ar=>(sk fun bu au=>(wt (oM rfl (oS rfl (Yk.eqI (a:=(a:Nat)) (b:=(0:Nat)) f rfl (A0 _ _ _ _) (oM rfl (oY (d:=11) rfl rfl (vr (.bool (false)) (congrArg Value.bool (decide_eq_false (by omega)))) (Yk.move f (oY (d:=11) rfl rfl (vr (.bool (false)) (congrArg Value.bool (decide_eq_false (by omega)))) (Yk.move g (oY (d:=11) rfl rfl (vr (.bool (false)) (congrArg Value.bool (decide_eq_false (by omega)))) (Yk.lenRB El (RB.of (hr.keep hE) (vr v rfl)) (oY (d:=11) rfl rfl (vr (.bool (false)) (congrArg Value.bool (decide_eq_false (by omega)))) (Yk.eqI (a:=(a:Nat)) (b:=(l.length:Nat)) rfl rfl (k_gtr _ _ _ _) (oS rfl (Yk.pickF (vr (.bool (false)) (congrArg Value.bool (decide_eq_false (by omega)))) (vr (.bool (false)) (congrArg Value.bool (decide_eq_false (q1)))) (oZ (tN (au _ _ (Am (vr (.bool (false)) rfl) (Ak ?_)))))))))))))))))))))))
  refine tN (ar _ _ (sk fun bv bw=>(sk fun bx av=>(wt (oM rfl (oS rfl (Yk.lenRB El (RB.of (hr.keep hE) g) (oM rfl (oS rfl (Yk.bin (xv:=NI l.length) (yv:=NI a) rfl f rfl (BE _ _ _ (by omega) (by omega)) (oS rfl (Yk.eqI (a:=((l.length)-(a):Nat)) (b:=(32:Nat)) rfl rfl (A0 _ _ _ _) (oZ (tN (av _ _ (At (vr (.bool (true)) (congrArg Value.bool (decide_eq_true (q2)))) (sk fun bz aw=>(wt (oS rfl (Yk.loadAll (vr (PQ k 0) rfl) m NV rfl (by exact Aw List.length_replicate) (oS rfl (Yk.storeAll (vr (PQ n 0) rfl) (vr (AB (List.replicate 32 0)) rfl) c (by exact CL List.length_replicate List.length_replicate) (by exact Aw List.length_replicate) (Av _) fun b0 af ag b1=> ?_))))))))))))))))))))))
  have hE:=Ae hE ag (Nat.le_trans (Nat.le_refl _) (by omega))
  clear c
  clear h
  have m:=kb ag m (by omega)
  have c:=af;clear af
  have b2:=bl c
  refine oA rfl (oA rfl (oZ (tN (aw _ _ (Ao (Ap (An (fn:=Tryd.f119) _ rfl [AB (List.replicate 32 0),NI 0,NI 6] (.tuple #[AB (List.replicate 32 0),NI 0,NI 6]) rfl ⟨ResF.row rfl c NV rfl (by first | exact Aw hXl | exact Aw List.length_replicate),rfl,rfl,trivial⟩ ?_)))))))
  rw[hR]
  exact⟨rfl,hE⟩
 have hR:AR l a=_:=(if_neg q1).trans (if_neg q2)
 refine tN (x _ _ (sk fun b3 ax=>(sk fun b4 ay=>(wt (oM rfl (oS rfl (Yk.eqI (a:=(a:Nat)) (b:=(0:Nat)) f rfl (A0 _ _ _ _) (oM rfl (oY (d:=11) rfl rfl (vr (.bool (false)) (congrArg Value.bool (decide_eq_false (by omega)))) (Yk.move f (oY (d:=11) rfl rfl (vr (.bool (false)) (congrArg Value.bool (decide_eq_false (by omega)))) (Yk.move g (oY (d:=11) rfl rfl (vr (.bool (false)) (congrArg Value.bool (decide_eq_false (by omega)))) (Yk.lenRB El (RB.of (hr.keep hE) (vr v rfl)) (oY (d:=11) rfl rfl (vr (.bool (false)) (congrArg Value.bool (decide_eq_false (by omega)))) (Yk.eqI (a:=(a:Nat)) (b:=(l.length:Nat)) rfl rfl (k_gtr _ _ _ _) (oS rfl (Yk.pickF (vr (.bool (false)) (congrArg Value.bool (decide_eq_false (by omega)))) (vr (.bool (false)) (congrArg Value.bool (decide_eq_false (q1)))) (oZ (tN (ay _ _ (Am (vr (.bool (false)) rfl) (Ak ?_)))))))))))))))))))))))
 refine tN (ax _ _ (sk fun b5 az=>(sk fun b6 a0=>(wt (oM rfl (oS rfl (Yk.lenRB El (RB.of (hr.keep hE) g) (oM rfl (oS rfl (Yk.bin (xv:=NI l.length) (yv:=NI a) rfl f rfl (BE _ _ _ (by omega) (by omega)) (oS rfl (Yk.eqI (a:=((l.length)-(a):Nat)) (b:=(32:Nat)) rfl rfl (A0 _ _ _ _) (oZ (tN (a0 _ _ (Am (vr (.bool (false)) (congrArg Value.bool (decide_eq_false (q2)))) (Ak (tN (az _ _ (sk fun b7 a1=>(sk fun b8 a2=> ?_)))))))))))))))))))))
 refine wt (oA rfl (Bp [(0,v),(1,NI a),(4,PQ n 0),(5,NI 0),(6,NI 0),(7,PQ k 0),(8,NI 0),(16, .bool (false)),(22, .bool (false))] ⟨g,f,rfl,rfl,rfl,rfl,rfl,rfl,(congrArg Value.bool (decide_eq_false (q2))),trivial⟩ fun b9 ⟨g,f,o,q,r,p,j,s,t,_⟩=>(tN (a2 _ _ (AA (Bu (fun(ρ:As) (wz:World)=>∃i:Nat,ρ 0=(v:Value)∧ρ 1=(NI a:Value)∧ρ 4=(PQ n 0:Value)∧ρ 5=(NI 0:Value)∧ρ 6=(NI 0:Value)∧ρ 7=(PQ k 0:Value)∧ρ 16=(.bool (false):Value)∧ρ 22=(.bool (false):Value)∧ρ 8=(NI i:Value)∧Ext w wz∧wz.heap[n]? =some (.cells (Lib.byteCells (List.replicate 32 0)).toArray 25 (0,0))∧Ext u wz∧wz.heap[k]? =some (.cells (Lib.byteCells (Ih l a i)).toArray 25 (0,0))∧(i≤32)∧True) (fun ρ _=>32-(intOf (ρ 8)).toNat) ⟨0,g,f,o,q,r,p,s,t,j,hE,c,h,Az m (congrArg Lib.byteCells (by unfold Ih;simp)),Nat.zero_le _,trivial⟩ ?_))))))
 clear m
 clear hE c h
 rintro a3 a4 ⟨i,g,f,o,q,r,p,s,t,j,hE,c,h,hb21l,hi,-⟩
 have q8:=j
 by_cases hlt:i<32
 ·have hil:=Or (l:=l) (a:=a) hi (by omega)
  refine sk fun ca a5=>(sk fun cb a6=>(wt (oM rfl (oS rfl (Yk.eqI (a:=(i:Nat)) (b:=(32:Nat)) j rfl (A0 _ _ _ _) (oZ (tN (a6 _ _ (At (vr (.bool (true)) (congrArg Value.bool (decide_eq_true (hlt)))) (Ak (tN (a5 _ _ (sk fun cc a7=>(AA (wt (oM rfl (oM rfl (oM rfl ?_))))))))))))))))))
  refine oM rfl (oS rfl (Yk.bin (xv:=NI a) (yv:=NI i) f j rfl (Be _ _ _ (by omega)) (oS rfl (Yk.atRB (l:=l) (i:=(a)+(i)) El Lt (RB.of (hr.keep hE) g) (vr (NI ((a)+(i))) rfl) (by omega) fun a8 ah=>(oS rfl (Yk.loadC u5 rfl (PCell.of ah (vr a8 rfl)) (oS rfl (Yk.atArr0 (i:=i) NV Lt p j (by omega) (oS rfl (Yk.storeB8 (i:=i) (v:=l.getD ((a)+(i)) 0) (vr (PQ k i) rfl) (vr (B8 (l.getD ((a)+(i)) 0)) rfl) hb21l (by rw[hil];omega) OC fun cd ai z ce=> ?_))))))))))
  have hE:=Ae hE z (Nat.le_trans ao (by omega))
  have c:=kb z c (by omega)
  have h:=Ae h z (Nat.le_trans (Nat.le_refl _) (by omega))
  clear hb21l
  clear ah
  have hb21l:=ai;clear ai
  have cf:=bl hb21l
  refine oZ (bN (tN (a7 _ _ (wt (oM rfl (oS rfl (Yk.bin (xv:=NI i) (yv:=NI 1) j rfl rfl (Be _ _ _ (by omega)) (oA rfl (Bp [(0,v),(1,NI a),(4,PQ n 0),(5,NI 0),(6,NI 0),(7,PQ k 0),(8,NI ((i)+(1))),(16, .bool (false)),(22, .bool (false)),(25, .bool (true))] ⟨g,f,o,q,r,p,rfl,s,t,(congrArg Value.bool (decide_eq_true (hlt))),trivial⟩ fun a9 ⟨g,f,o,q,r,p,j,s,t,cg,_⟩=>(tN (And.intro ⟨i+1,g,f,o,q,r,p,s,t,j,hE,c,h,Az hb21l (congrArg Lib.byteCells (NN hlt (by omega))),by omega,trivial⟩ ?_)))))))))))
  show 32-(intOf (a9 8)).toNat<32-(intOf (a3 8)).toNat
  rw[j,q8]
  simp only[intOf,Int.toNat_natCast];omega
 have hi32:i=32:=by omega
 obtain⟨X,hX⟩:∃X,X=(l.drop a).take 32:=⟨_,rfl⟩
 have hXl:X.length=32:=by rw[hX,List.length_take,List.length_drop];omega
 have hb21l:a4.heap[k]? =some (.cells (Lib.byteCells X).toArray 25 (0,0)):=Az hb21l (congrArg Lib.byteCells (by rw[hi32,Ot,hX]))
 refine sk fun ch ci=>(sk fun cj ba=>(wt (oM rfl (oS rfl (Yk.eqI (a:=(i:Nat)) (b:=(32:Nat)) j rfl (A0 _ _ _ _) (oZ (tN (ba _ _ (Am (vr (.bool (false)) (congrArg Value.bool (decide_eq_false (hlt)))) (Bm (Ax (Ax (AS (tN (a1 _ _ (sk fun ck bb=>(wt (oS rfl (Yk.loadAll p hb21l NV rfl (by exact Aw hXl) (oM rfl (oS rfl (Yk.bin (xv:=NI a) (yv:=NI 32) f rfl rfl (Be _ _ _ (by omega)) (oS rfl (Yk.storeAll o (vr (AB X) rfl) c (by exact CL hXl List.length_replicate) (by exact Aw hXl) (Av _) fun cl aj bc cm=> ?_))))))))))))))))))))))))
 have hE:=Ae hE bc (Nat.le_trans (Nat.le_refl _) (by omega))
 clear c
 clear h
 have c:=aj;clear aj
 have cn:=bl c
 refine oA rfl (oA rfl (oZ (tN (bb _ _ (Ao (An (fn:=Tryd.f119) _ rfl [AB X,NI ((a)+(32)),NI 0] (.tuple #[AB X,NI ((a)+(32)),NI 0]) rfl ⟨ResF.row o c NV rfl (by first | exact Aw hXl | exact Aw List.length_replicate),rfl,rfl,trivial⟩ ?_))))))
 rw[hR,←hX]
 exact⟨rfl,hE⟩

theorem GG(w:World)(r:Nat)(v:Value)(b:Bs)(i:Nat)(k:Bool)(hb:w.heap[r]? =some (.cells (AK (Ay v b (i) k)).toArray 115 (0,0)))(hr:RB w v b)(hap:b= []∨OB v r)(hi:i≤b.length)(hl:b.length≤6000):
  Calls Tryd.prog 68 #[PQ r 0] w fun e w' =>∃c n q,DB b (i,k)=(c,(n,q))∧e = .returned (B8 c)∧w'.heap[r]? =some (.cells (AK (Ay v b (n) q)).toArray 115 (0,0))∧n≤b.length∧w.grownBy w' (some r):=by
 have hlr:=(bl hb)
 have hgr:=World.grownBy.refl w (some r)
 refine calls_of_wpF (args:= [PQ r 0]) Tryd.func68 rfl 41 rfl (Nat.le_of_ble_eq_true rfl) ?_
 intro a1 hb
 have f:a1 0=(PQ r 0:Value):=hb.get 0
 clear hb
 have hE:=Ext.refl w
 refine sk fun K1 y=>(wt (oA rfl (oZ ?_)))
 cases k
 ·have hP:Dx (0:UInt8) (Cx b i) (i,false)=_:=JC
  refine tN (y _ _ (sk fun K2 b1=>(sk fun K3 a2=> ?_)))
  refine A2 [Is (PQ r 0),Is (PQ r 0),Is (PQ r 2),Is (.bool (false)),Is (.bool (true)),Is (.bool (true)),Is undef,Is undef,Is undef,Is undef,Is undef,Is undef,Is undef,Is undef,Is undef,Is undef,Is (.bool (true))] (by kernel_rfl) [3,4,5,6,7,8,9,10,11,12,13,14,15,16,17,18,19] (by kernel_rfl) (by kernel_rfl) (Hx (B6 trivial)) ?a3 ?hQ1001
  case a3=>
   refine⟨?_,?_,?_,?_,?_,?_,?_,?_,?_,?_,?_,?_,?_,?_,?_,?_,?_,trivial⟩
   ·refine Aa rfl fun σ w1 hC h=> ?_
    have g:=(Af (h 0 (by decide))).trans f
    exact Yk.move g ⟨Ext.refl _,rfl⟩
   ·refine Aa rfl fun σ w1 hC h=> ?_
    have m:=Af (h 3 (by decide))
    exact Yk.nilCheck m ⟨Ext.refl _,rfl⟩
   ·refine Aa rfl fun σ w1 hC h=> ?_
    have o:=Af (h 4 (by decide))
    exact Yk.fieldAt A1 o ⟨Ext.refl _,rfl⟩
   ·refine Aa rfl fun σ w1 hC h=> ?_
    have p:=Af (h 5 (by decide))
    exact Yk.cell1 De rfl p (Ab (eb hC hb) (show(AK (Ay v b (i) false))[2]? =some (.bool (false):Value)from Cj (Ay v b (i) false))) ⟨Ext.refl _,rfl⟩
   ·refine Aa rfl fun σ w1 hC h=> ?_
    have s:=Af (h 6 (by decide))
    exact Yk.notB s ⟨Ext.refl _,rfl⟩
   ·refine Aa rfl fun σ w1 hC h=> ?_
    have t:=Af (h 7 (by decide))
    exact Yk.move t ⟨Ext.refl _,rfl⟩
   ·refine A9 5 false 8 rfl rfl (fun x _ (h:x = .bool true)=>by rw[h];intro h;cases h) fun _=>rfl
   ·refine A9 5 false 8 rfl rfl (fun x _ (h:x = .bool true)=>by rw[h];intro h;cases h) fun _=>rfl
   ·refine A9 5 false 8 rfl rfl (fun x _ (h:x = .bool true)=>by rw[h];intro h;cases h) fun _=>rfl
   ·refine A9 5 false 8 rfl rfl (fun x _ (h:x = .bool true)=>by rw[h];intro h;cases h) fun _=>rfl
   ·refine A9 5 false 8 rfl rfl (fun x _ (h:x = .bool true)=>by rw[h];intro h;cases h) fun _=>rfl
   ·refine A9 5 false 8 rfl rfl (fun x _ (h:x = .bool true)=>by rw[h];intro h;cases h) fun _=>rfl
   ·refine A9 5 false 8 rfl rfl (fun x _ (h:x = .bool true)=>by rw[h];intro h;cases h) fun _=>rfl
   ·refine A9 5 false 8 rfl rfl (fun x _ (h:x = .bool true)=>by rw[h];intro h;cases h) fun _=>rfl
   ·refine A9 5 false 8 rfl rfl (fun x _ (h:x = .bool true)=>by rw[h];intro h;cases h) fun _=>rfl
   ·refine A9 5 false 8 rfl rfl (fun x _ (h:x = .bool true)=>by rw[h];intro h;cases h) fun _=>rfl
   ·refine Aa rfl fun σ w1 hC h=> ?_
    have u:=Af (h 8 (by decide))
    exact Yk.pickT u (vr (.bool (true)) rfl) ⟨Ext.refl _,rfl⟩
  intro a4 w5 z he hf
  obtain⟨-,-,-,-,-,-,-,-,-,-,-,-,-,-,-,-,k19,-⟩:=hf
  obtain⟨f,T2,-⟩:=he.hold [(0,_),(2,B8 (0))] ⟨f,rfl,trivial⟩ rfl
  clear he
  have hb:=eb z hb
  have hgr:w.grownBy w5 (some r):=Ag hgr z.grown (fun _ e=>by cases e)
  have hE:=hE.trans z
  have j:a4 19 = .bool (true):=k19
  clear k19
  have hr:=(hr.keep hE)
  refine tN (a2 _ _ (At j (sk fun K7 a6=>(wt (oM rfl (oS rfl (Yk.nilCheck f (oS rfl (Yk.fieldAt A1 (vr (PQ r 0) rfl) (oS rfl (Yk.storeC (i:=2) (v:= .bool (false)) (vr (PQ r 2) rfl) (vr (.bool (false)) rfl) hb (by rw[Co];decide) MO rfl rfl fun w8 ap aq b4=> ?_)))))))))))
  clear hb
  have hr:=RB.keptE hr aq hap
  have hgr:w.grownBy w8 (some r):=Ag hgr aq (fun _ e=> .inl e)
  clear hE
  have hb:w8.heap[r]? =some (.cells (AK ((⟨b,((i:Nat):Int),false⟩,⟨v⟩):Ch)).toArray 115 (0,0)):=Az ap (Dt (Ay v b (i) false) false);clear ap
  have b5:=bl hb
  refine oZ (tN (a6 _ _ (sk fun b6 a7=>(wt (oA rfl (oZ (tN (a7 _ _ (Ao (Ap (An (fn:=Tryd.f68) _ rfl [B8 (0)] (B8 (0)) rfl ⟨rfl,trivial⟩ ?_)))))))))))
  exact⟨_,_,_,hP,rfl,hb,by omega,hgr⟩
 by_cases hlt:i<b.length
 ·have hp:Cx b i=some (b.getD i 0,i+1):=if_pos hlt
  have hP:Dx (0:UInt8) (Cx b i) (i,true)=_:=Cm hp
  refine tN (y _ _ (sk fun b7 a8=>(sk fun b8 a9=> ?_)))
  refine A2 [Is (PQ r 0),Is (PQ r 0),Is (PQ r 2),Is (.bool (true)),Is (.bool (false)),Is (.bool (false)),Is (PQ r 0),Is (PQ r 0),Is (PQ r 1),Is (NI i),Is (PQ r 0),Is (PQ r 0),Is (PQ r 0),Is (v),Is (NI b.length),Is (.bool (false)),Is (.bool (false))] (by kernel_rfl) [3,4,5,6,7,8,9,10,11,12,13,14,15,16,17,18,19] (by kernel_rfl) (by kernel_rfl) (Hx (B6 trivial)) ?ba ?hQ2001
  case ba=>
   refine⟨?_,?_,?_,?_,?_,?_,?_,?_,?_,?_,?_,?_,?_,?_,?_,?_,?_,trivial⟩
   ·refine Aa rfl fun σ w1 hC h=> ?_
    have g:=(Af (h 0 (by decide))).trans f
    exact Yk.move g ⟨Ext.refl _,rfl⟩
   ·refine Aa rfl fun σ w1 hC h=> ?_
    have m:=Af (h 3 (by decide))
    exact Yk.nilCheck m ⟨Ext.refl _,rfl⟩
   ·refine Aa rfl fun σ w1 hC h=> ?_
    have o:=Af (h 4 (by decide))
    exact Yk.fieldAt A1 o ⟨Ext.refl _,rfl⟩
   ·refine Aa rfl fun σ w1 hC h=> ?_
    have p:=Af (h 5 (by decide))
    exact Yk.cell1 De rfl p (Ab (eb hC hb) (show(AK (Ay v b (i) true))[2]? =some (.bool (true):Value)from Cj (Ay v b (i) true))) ⟨Ext.refl _,rfl⟩
   ·refine Aa rfl fun σ w1 hC h=> ?_
    have s:=Af (h 6 (by decide))
    exact Yk.notB s ⟨Ext.refl _,rfl⟩
   ·refine Aa rfl fun σ w1 hC h=> ?_
    have t:=Af (h 7 (by decide))
    exact Yk.move t ⟨Ext.refl _,rfl⟩
   ·refine AD 5 false 8 rfl rfl (fun _ _ h=>h) fun σ w1 hC h=> ?_
    have g:=(Af (h 0 (by decide))).trans f
    exact Yk.move g ⟨Ext.refl _,rfl⟩
   ·refine AD 5 false 8 rfl rfl (fun _ _ h=>h) fun σ w1 hC h=> ?_
    have e9:=Af (h 9 (by decide))
    exact Yk.nilCheck e9 ⟨Ext.refl _,rfl⟩
   ·refine AD 5 false 8 rfl rfl (fun _ _ h=>h) fun σ w1 hC h=> ?_
    have ab:=Af (h 10 (by decide))
    exact Yk.fieldAt Bj ab ⟨Ext.refl _,rfl⟩
   ·refine AD 5 false 8 rfl rfl (fun _ _ h=>h) fun σ w1 hC h=> ?_
    have ac:=Af (h 11 (by decide))
    exact Yk.cell1 FI rfl ac (Ab (eb hC hb) (show(AK (Ay v b (i) true))[1]? =some (NI i:Value)from CW (Ay v b (i) true))) ⟨Ext.refl _,rfl⟩
   ·refine AD 5 false 8 rfl rfl (fun _ _ h=>h) fun σ w1 hC h=> ?_
    have g:=(Af (h 0 (by decide))).trans f
    exact Yk.move g ⟨Ext.refl _,rfl⟩
   ·refine AD 5 false 8 rfl rfl (fun _ _ h=>h) fun σ w1 hC h=> ?_
    have ad:=Af (h 13 (by decide))
    exact Yk.nilCheck ad ⟨Ext.refl _,rfl⟩
   ·refine AD 5 false 8 rfl rfl (fun _ _ h=>h) fun σ w1 hC h=> ?_
    have ae:=Af (h 14 (by decide))
    exact Yk.fieldAt BB ae ⟨Ext.refl _,rfl⟩
   ·refine AD 5 false 8 rfl rfl (fun _ _ h=>h) fun σ w1 hC h=> ?_
    have af:=Af (h 15 (by decide))
    exact Yk.cell1 El rfl af (Ab (eb hC hb) (show(AK (Ay v b (i) true))[0]? =some (v:Value)from C2 (Ay v b (i) true))) ⟨Ext.refl _,rfl⟩
   ·refine AD 5 false 8 rfl rfl (fun _ _ h=>h) fun σ w1 hC h=> ?_
    have ag:=Af (h 16 (by decide))
    exact Yk.lenRB El (RB.of (hr.keep (hE.trans hC)) ag) ⟨Ext.refl _,rfl⟩
   ·refine AD 5 false 8 rfl rfl (fun _ _ h=>h) fun σ w1 hC h=> ?_
    have ah:=Af (h 12 (by decide))
    have ai:=Af (h 17 (by decide))
    exact Yk.eqI (a:=(i:Nat)) (b:=(b.length:Nat)) ah ai (EJ _ _ _ _) ⟨Ext.refl _,(congrArg Value.bool (decide_eq_false (by omega)))⟩
   ·refine Aa rfl fun σ w1 hC h=> ?_
    have u:=Af (h 8 (by decide))
    have aj:=Af (h 18 (by decide))
    exact Yk.pickF u aj ⟨Ext.refl _,rfl⟩
  intro bb bc ak he hf
  obtain⟨-,-,-,-,-,-,-,-,-,-,-,-,-,-,-,-,k19,-⟩:=hf
  obtain⟨f,T2,-⟩:=he.hold [(0,_),(2,B8 (0))] ⟨f,rfl,trivial⟩ rfl
  clear he
  have hb:=eb ak hb
  have hgr:w.grownBy bc (some r):=Ag hgr ak.grown (fun _ e=>by cases e)
  have hE:=hE.trans ak
  have j:bb 19 = .bool (false):=k19
  clear k19
  have hr:=(hr.keep hE)
  refine tN (a9 _ _ (Am j (Ak (tN (a8 _ _ (sk fun b9 bd=>(wt (oM rfl (oS rfl (Yk.nilCheck f (oS rfl (Yk.fieldAt Bj (vr (PQ r 0) rfl) (oS rfl (Yk.cell1 FI rfl (vr (PQ r 1) rfl) (Ab hb (show(AK (Ay v b (i) true))[1]? =some (NI i:Value)from CW (Ay v b (i) true))) (oS rfl (Yk.bin (xv:=NI i) (yv:=NI 1) rfl rfl rfl (Be _ _ _ (by omega)) (oS rfl (Yk.nilCheck f (oS rfl (Yk.fieldAt Bj (vr (PQ r 0) rfl) (oS rfl (Yk.storeC (i:=1) (v:=NI ((i)+(1))) (vr (PQ r 1) rfl) (vr (NI ((i)+(1))) rfl) hb (by rw[Co];decide) Dm rfl rfl fun ar au av ca=> ?_))))))))))))))))))))))
  clear hb
  have hr:=RB.keptE hr av hap
  have hgr:w.grownBy ar (some r):=Ag hgr av (fun _ e=> .inl e)
  clear hE
  have hb:ar.heap[r]? =some (.cells (AK ((⟨b,(((i)+(1):Nat):Int),true⟩,⟨v⟩):Ch)).toArray 115 (0,0)):=Az au (HN (Ay v b (i) true) (((i)+(1):Nat):Int));clear au
  have cb:=bl hb
  refine oZ (tN (bd _ _ (sk fun cc be=> ?_)))
  refine Gs 9 [Is (PQ r 0),Is (PQ r 0),Is (PQ r 0),Is (v),Is (PQ r 0),Is (PQ r 0),Is (PQ r 1),Is (NI ((i)+(1))),Is (NI (((i)+(1))-(1)))] (by kernel_rfl) [30,31,32,33,34,35,36,37,38,39,40,2] (by kernel_rfl) (by kernel_rfl) (by kernel_rfl) (by kernel_rfl) rfl rfl (L7 trivial) ?bf ?hQ3005
  case bf=>
   refine⟨?_,?_,?_,?_,?_,?_,?_,?_,?_,?_,?_,?_,trivial⟩
   ·refine AT (Aa rfl fun σ w1 hC h=> ?_)
    have g:=(Af (h 0 (by decide))).trans f
    exact Yk.move g ⟨Ext.refl _,rfl⟩
   ·refine AT (Aa rfl fun σ w1 hC h=> ?_)
    have bg:=Af (h 30 (by decide))
    exact Yk.nilCheck bg ⟨Ext.refl _,rfl⟩
   ·refine AT (Aa rfl fun σ w1 hC h=> ?_)
    have bh:=Af (h 31 (by decide))
    exact Yk.fieldAt BB bh ⟨Ext.refl _,rfl⟩
   ·refine AT (Aa rfl fun σ w1 hC h=> ?_)
    have bi:=Af (h 32 (by decide))
    exact Yk.cell1 El rfl bi (Ab (eb hC hb) (show(AK ((⟨b,(((i)+(1):Nat):Int),true⟩,⟨v⟩):Ch))[0]? =some (v:Value)from C2 ((⟨b,(((i)+(1):Nat):Int),true⟩,⟨v⟩):Ch))) ⟨Ext.refl _,rfl⟩
   ·refine AT (Aa rfl fun σ w1 hC h=> ?_)
    have g:=(Af (h 0 (by decide))).trans f
    exact Yk.move g ⟨Ext.refl _,rfl⟩
   ·refine AT (Aa rfl fun σ w1 hC h=> ?_)
    have bj:=Af (h 34 (by decide))
    exact Yk.nilCheck bj ⟨Ext.refl _,rfl⟩
   ·refine AT (Aa rfl fun σ w1 hC h=> ?_)
    have bk:=Af (h 35 (by decide))
    exact Yk.fieldAt Bj bk ⟨Ext.refl _,rfl⟩
   ·refine AT (Aa rfl fun σ w1 hC h=> ?_)
    have bm:=Af (h 36 (by decide))
    exact Yk.cell1 FI rfl bm (Ab (eb hC hb) (show(AK ((⟨b,(((i)+(1):Nat):Int),true⟩,⟨v⟩):Ch))[1]? =some (NI ((i)+(1)):Value)from CW ((⟨b,(((i)+(1):Nat):Int),true⟩,⟨v⟩):Ch))) ⟨Ext.refl _,rfl⟩
   ·refine AT (Aa rfl fun σ w1 hC h=> ?_)
    have bn:=Af (h 37 (by decide))
    exact Yk.bin (xv:=NI ((i)+(1))) (yv:=NI 1) bn rfl rfl (BE _ _ _ (by omega) (by omega)) ⟨Ext.refl _,rfl⟩
   ·exact trivial
   ·exact trivial
   ·exact trivial
  intro aw bo al he hf
  obtain⟨-,-,-,k33,-,-,-,-,k38,-⟩:=hf
  obtain⟨f,j,-⟩:=he.hold [(0,_),(19,_)] ⟨f,j,trivial⟩ rfl
  clear he
  have hr:=hr.keep al
  have hgr:w.grownBy bo (some r):=Ag hgr al.grown (fun _ e=>by cases e)
  have hb:=eb al hb
  have bp:aw 33=v:=k33
  have bq:aw 38=NI (((i)+(1))-(1)):=k38
  clear k33 k38
  refine oS rfl (Yk.atRB (l:=b) (i:=((i)+(1))-(1)) El Lt (RB.of hr bp) bq (by omega) fun br ax=>(oS rfl (Yk.loadC u5 rfl (PCell.of ax (vr br rfl)) (oA rfl (oZ ?_)))))
  clear ax
  refine tN (be _ _ (Ao (An (fn:=Tryd.f68) _ rfl [B8 (b.getD (((i)+(1))-(1)) 0)] (B8 (b.getD (((i)+(1))-(1)) 0)) rfl ⟨rfl,trivial⟩ ?_)))
  exact⟨_,_,_,hP,rfl,hb,by omega,hgr⟩
 have hp:Cx b i=none:=if_neg hlt
 have hP:Dx (0:UInt8) (Cx b i) (i,true)=_:=GU hp
 refine tN (y _ _ (sk fun cd ce=>(sk fun cf bs=> ?_)))
 refine A2 [Is (PQ r 0),Is (PQ r 0),Is (PQ r 2),Is (.bool (true)),Is (.bool (false)),Is (.bool (false)),Is (PQ r 0),Is (PQ r 0),Is (PQ r 1),Is (NI i),Is (PQ r 0),Is (PQ r 0),Is (PQ r 0),Is (v),Is (NI b.length),Is (.bool (true)),Is (.bool (true))] (by kernel_rfl) [3,4,5,6,7,8,9,10,11,12,13,14,15,16,17,18,19] (by kernel_rfl) (by kernel_rfl) (Hx (B6 trivial)) ?bt ?hQ4001
 case bt=>
  refine⟨?_,?_,?_,?_,?_,?_,?_,?_,?_,?_,?_,?_,?_,?_,?_,?_,?_,trivial⟩
  ·refine Aa rfl fun σ w1 hC h=> ?_
   have g:=(Af (h 0 (by decide))).trans f
   exact Yk.move g ⟨Ext.refl _,rfl⟩
  ·refine Aa rfl fun σ w1 hC h=> ?_
   have m:=Af (h 3 (by decide))
   exact Yk.nilCheck m ⟨Ext.refl _,rfl⟩
  ·refine Aa rfl fun σ w1 hC h=> ?_
   have o:=Af (h 4 (by decide))
   exact Yk.fieldAt A1 o ⟨Ext.refl _,rfl⟩
  ·refine Aa rfl fun σ w1 hC h=> ?_
   have p:=Af (h 5 (by decide))
   exact Yk.cell1 De rfl p (Ab (eb hC hb) (show(AK (Ay v b (i) true))[2]? =some (.bool (true):Value)from Cj (Ay v b (i) true))) ⟨Ext.refl _,rfl⟩
  ·refine Aa rfl fun σ w1 hC h=> ?_
   have s:=Af (h 6 (by decide))
   exact Yk.notB s ⟨Ext.refl _,rfl⟩
  ·refine Aa rfl fun σ w1 hC h=> ?_
   have t:=Af (h 7 (by decide))
   exact Yk.move t ⟨Ext.refl _,rfl⟩
  ·refine AD 5 false 8 rfl rfl (fun _ _ h=>h) fun σ w1 hC h=> ?_
   have g:=(Af (h 0 (by decide))).trans f
   exact Yk.move g ⟨Ext.refl _,rfl⟩
  ·refine AD 5 false 8 rfl rfl (fun _ _ h=>h) fun σ w1 hC h=> ?_
   have e9:=Af (h 9 (by decide))
   exact Yk.nilCheck e9 ⟨Ext.refl _,rfl⟩
  ·refine AD 5 false 8 rfl rfl (fun _ _ h=>h) fun σ w1 hC h=> ?_
   have ab:=Af (h 10 (by decide))
   exact Yk.fieldAt Bj ab ⟨Ext.refl _,rfl⟩
  ·refine AD 5 false 8 rfl rfl (fun _ _ h=>h) fun σ w1 hC h=> ?_
   have ac:=Af (h 11 (by decide))
   exact Yk.cell1 FI rfl ac (Ab (eb hC hb) (show(AK (Ay v b (i) true))[1]? =some (NI i:Value)from CW (Ay v b (i) true))) ⟨Ext.refl _,rfl⟩
  ·refine AD 5 false 8 rfl rfl (fun _ _ h=>h) fun σ w1 hC h=> ?_
   have g:=(Af (h 0 (by decide))).trans f
   exact Yk.move g ⟨Ext.refl _,rfl⟩
  ·refine AD 5 false 8 rfl rfl (fun _ _ h=>h) fun σ w1 hC h=> ?_
   have ad:=Af (h 13 (by decide))
   exact Yk.nilCheck ad ⟨Ext.refl _,rfl⟩
  ·refine AD 5 false 8 rfl rfl (fun _ _ h=>h) fun σ w1 hC h=> ?_
   have ae:=Af (h 14 (by decide))
   exact Yk.fieldAt BB ae ⟨Ext.refl _,rfl⟩
  ·refine AD 5 false 8 rfl rfl (fun _ _ h=>h) fun σ w1 hC h=> ?_
   have af:=Af (h 15 (by decide))
   exact Yk.cell1 El rfl af (Ab (eb hC hb) (show(AK (Ay v b (i) true))[0]? =some (v:Value)from C2 (Ay v b (i) true))) ⟨Ext.refl _,rfl⟩
  ·refine AD 5 false 8 rfl rfl (fun _ _ h=>h) fun σ w1 hC h=> ?_
   have ag:=Af (h 16 (by decide))
   exact Yk.lenRB El (RB.of (hr.keep (hE.trans hC)) ag) ⟨Ext.refl _,rfl⟩
  ·refine AD 5 false 8 rfl rfl (fun _ _ h=>h) fun σ w1 hC h=> ?_
   have ah:=Af (h 12 (by decide))
   have ai:=Af (h 17 (by decide))
   exact Yk.eqI (a:=(i:Nat)) (b:=(b.length:Nat)) ah ai (EJ _ _ _ _) ⟨Ext.refl _,(congrArg Value.bool (decide_eq_true (by omega)))⟩
  ·refine Aa rfl fun σ w1 hC h=> ?_
   have u:=Af (h 8 (by decide))
   have aj:=Af (h 18 (by decide))
   exact Yk.pickF u aj ⟨Ext.refl _,rfl⟩
 intro bu bv am he hf
 obtain⟨-,-,-,-,-,-,-,-,-,-,-,-,-,-,-,-,k19,-⟩:=hf
 obtain⟨f,T2,-⟩:=he.hold [(0,_),(2,B8 (0))] ⟨f,rfl,trivial⟩ rfl
 clear he
 have hb:=eb am hb
 have hgr:w.grownBy bv (some r):=Ag hgr am.grown (fun _ e=>by cases e)
 have hE:=hE.trans am
 have j:bu 19 = .bool (true):=k19
 clear k19
 have hr:=(hr.keep hE)
 refine tN (bs _ _ (At j (sk fun cg bw=>(wt (oM rfl (oS rfl (Yk.nilCheck f (oS rfl (Yk.fieldAt A1 (vr (PQ r 0) rfl) (oS rfl (Yk.storeC (i:=2) (v:= .bool (false)) (vr (PQ r 2) rfl) (vr (.bool (false)) rfl) hb (by rw[Co];decide) MO rfl rfl fun ay az a0 ch=> ?_)))))))))))
 clear hb
 have hr:=RB.keptE hr a0 hap
 have hgr:w.grownBy ay (some r):=Ag hgr a0 (fun _ e=> .inl e)
 clear hE
 have hb:ay.heap[r]? =some (.cells (AK ((⟨b,((i:Nat):Int),false⟩,⟨v⟩):Ch)).toArray 115 (0,0)):=Az az (Dt (Ay v b (i) true) false);clear az
 have ci:=bl hb
 refine oZ (tN (bw _ _ (sk fun cj bx=>(wt (oA rfl (oZ (tN (bx _ _ (Ao (Ap (An (fn:=Tryd.f68) _ rfl [B8 (0)] (B8 (0)) rfl ⟨rfl,trivial⟩ ?_)))))))))))
 exact⟨_,_,_,hP,rfl,hb,by omega,hgr⟩

theorem DL(w:World)(r:Nat)(v:Value)(b:Bs)(i:Nat)(k:Bool)(hb:w.heap[r]? =some (.cells (AK (Ay v b (i) k)).toArray 115 (0,0)))(hr:RB w v b)(hap:b= []∨OB v r)(hi:i≤b.length)(hl:b.length≤6000):
  Calls Tryd.prog 69 #[PQ r 0] w fun e w' =>∃c n q,BM b (i,k)=(c,(n,q))∧e = .returned (NI c)∧w'.heap[r]? =some (.cells (AK (Ay v b (n) q)).toArray 115 (0,0))∧n≤b.length∧w.grownBy w' (some r):=by
 have hlr:=(bl hb)
 have hgr:=World.grownBy.refl w (some r)
 refine calls_of_wpF (args:= [PQ r 0]) Tryd.func69 rfl 36 rfl (Nat.le_of_ble_eq_true rfl) ?_
 intro ao hb
 have l:ao 0=(PQ r 0:Value):=hb.get 0
 clear hb
 have hE:=Ext.refl w
 refine sk fun K1 o=>(wt (oA rfl (oZ ?_)))
 cases k
 ·have hP:Dx (0:Nat) (Bk b i) (i,false)=_:=JC
  refine tN (o _ _ (sk fun K2 ap=> ?_))
  have p:Ext w (World.drew w):=(Below.refl _ _).drew
  have hb:=eb p hb
  have hgr:w.grownBy (World.drew w) (some r):=Ag hgr p.grown (fun _ e=>by cases e)
  have hE:=hE.trans p
  refine BL [(0,7,PQ r 0),(1,8,PQ r 0),(2,9,PQ r 0),(3,10,v),(4,11,PQ r 0),(5,12,PQ r 0),(6,13,PQ r 1),(7,14,NI i),(8,15, .tuple #[NI ((Bn b i).1),NI ((Bn b i).2.1),NI ((Bn b i).2.2)]),(9,6, .tuple #[NI ((Bn b i).1),NI ((Bn b i).2.1),NI ((Bn b i).2.2)]),(10,16,NI ((Bn b i).1)),(11,17,NI ((Bn b i).2.1)),(12,18,NI ((Bn b i).2.2))] [13,14,15] (fun wz=>wz.heap[r]? =some (.cells (AK (Ay v b (i) false)).toArray 115 (0,0))∧Ext w wz∧True) (fun _ _ ⟨hb,hE,_⟩ k=>⟨(eb k hb),(hE.trans k),trivial⟩) (by kernel_rfl) (by kernel_rfl) (by kernel_rfl) ⟨hb,hE,trivial⟩ ⟨fun f ⟨hb,hE,_⟩=>Yk.move l ⟨rfl,Ext.refl _⟩,fun f ⟨hb,hE,_⟩=>Yk.nilCheck (vr (PQ r 0) rfl) ⟨rfl,Ext.refl _⟩,fun f ⟨hb,hE,_⟩=>Yk.fieldAt BB (vr (PQ r 0) rfl) ⟨rfl,Ext.refl _⟩,fun f ⟨hb,hE,_⟩=>Yk.cell1 El rfl (vr (PQ r 0) rfl) (Ab hb (show(AK (Ay v b (i) false))[0]? =some (v:Value)from C2 (Ay v b (i) false))) ⟨rfl,Ext.refl _⟩,fun f ⟨hb,hE,_⟩=>Yk.move l ⟨rfl,Ext.refl _⟩,fun f ⟨hb,hE,_⟩=>Yk.nilCheck (vr (PQ r 0) rfl) ⟨rfl,Ext.refl _⟩,fun f ⟨hb,hE,_⟩=>Yk.fieldAt Bj (vr (PQ r 0) rfl) ⟨rfl,Ext.refl _⟩,fun f ⟨hb,hE,_⟩=>Yk.cell1 FI rfl (vr (PQ r 1) rfl) (Ab hb (show(AK (Ay v b (i) false))[1]? =some (NI i:Value)from CW (Ay v b (i) false))) ⟨rfl,Ext.refl _⟩,fun f ⟨hb,hE,_⟩=>Yk.callA2 Dn (vr v rfl) (vr (NI i) rfl) ((KT _ v b (hr.keep hE) i hi (by omega)).mono (by rintro e m ⟨rfl,hx⟩;exact⟨_,rfl,rfl,hx⟩)),fun f ⟨hb,hE,_⟩=>Yk.move (vr (.tuple #[NI ((Bn b i).1),NI ((Bn b i).2.1),NI ((Bn b i).2.2)]) rfl) ⟨rfl,Ext.refl _⟩,fun f ⟨hb,hE,_⟩=>Yk.extract (vs:= [NI ((Bn b i).1),NI ((Bn b i).2.1),NI ((Bn b i).2.2)]) (vr (.tuple #[NI ((Bn b i).1),NI ((Bn b i).2.1),NI ((Bn b i).2.2)]) rfl) (show _=some (NI ((Bn b i).1):Value)from rfl) ⟨rfl,Ext.refl _⟩,fun f ⟨hb,hE,_⟩=>Yk.extract (vs:= [NI ((Bn b i).1),NI ((Bn b i).2.1),NI ((Bn b i).2.2)]) (vr (.tuple #[NI ((Bn b i).1),NI ((Bn b i).2.1),NI ((Bn b i).2.2)]) rfl) (show _=some (NI ((Bn b i).2.1):Value)from rfl) ⟨rfl,Ext.refl _⟩,fun f ⟨hb,hE,_⟩=>Yk.extract (vs:= [NI ((Bn b i).1),NI ((Bn b i).2.1),NI ((Bn b i).2.2)]) (vr (.tuple #[NI ((Bn b i).1),NI ((Bn b i).2.1),NI ((Bn b i).2.2)]) rfl) (show _=some (NI ((Bn b i).2.2):Value)from rfl) ⟨rfl,Ext.refl _⟩,trivial⟩ (AI rfl fun w6 s=> ?_)
  have hb:=eb s hb
  have hgr:w.grownBy w6 (some r):=Ag hgr s.grown (fun _ e=>by cases e)
  have hE:=hE.trans s
  refine AW (Yk.assign (vr (NI ((Bn b i).1)) rfl) ?_)
  refine⟨.inr ⟨hb,hE,trivial⟩,?_⟩
  refine AI rfl fun w8 t=> ?_
  have hb:=eb t hb
  have hgr:w.grownBy w8 (some r):=Ag hgr t.grown (fun _ e=>by cases e)
  have hE:=hE.trans t
  refine AW (Yk.assign (vr (NI ((Bn b i).2.1)) rfl) ?_)
  refine⟨.inr ⟨hb,hE,trivial⟩,?_⟩
  refine AI rfl fun au u=> ?_
  have hb:=eb u hb
  have hgr:w.grownBy au (some r):=Ag hgr u.grown (fun _ e=>by cases e)
  have hE:=hE.trans u
  refine AW (Yk.assign (vr (NI ((Bn b i).2.2)) rfl) ?_)
  refine⟨.inl rfl,?_⟩
  refine Cu ?_
  have hr:=(hr.keep hE)
  refine tN (ap _ _ (sk fun bf bg=>(sk fun bh av=>(wt (oM rfl (oS rfl (Yk.eqI (a:=((Bn b i).2.2:Nat)) (b:=(0:Nat)) rfl rfl (Ci _ _ _ _) (oM rfl (Ad (PQ r 0) rfl rfl (gF (vr (.bool (decide (((Bn b i).2.2:Nat)≠(0)))) rfl)) (fun hG14=>Yk.move l ⟨rfl,rfl⟩) (Ad (PQ r 0) rfl rfl (gF (vr (.bool (decide (((Bn b i).2.2:Nat)≠(0)))) rfl)) (fun hG15=>Yk.nilCheck (mayT (vr (cond (!(decide (((Bn b i).2.2:Nat)≠(0)))) (PQ r 0) undef) rfl) hG15) ⟨rfl,rfl⟩) (Ad (PQ r 2) rfl rfl (gF (vr (.bool (decide (((Bn b i).2.2:Nat)≠(0)))) rfl)) (fun hG16=>Yk.fieldAt A1 (mayT (vr (cond (!(decide (((Bn b i).2.2:Nat)≠(0)))) (PQ r 0) undef) rfl) hG16) ⟨rfl,rfl⟩) (Ad (.bool (false)) rfl rfl (gF (vr (.bool (decide (((Bn b i).2.2:Nat)≠(0)))) rfl)) (fun hG17=>Yk.cell1 De rfl (mayT (vr (cond (!(decide (((Bn b i).2.2:Nat)≠(0)))) (PQ r 2) undef) rfl) hG17) (Ab hb (show(AK (Ay v b (i) false))[2]? =some (.bool (false):Value)from Cj (Ay v b (i) false))) ⟨rfl,rfl⟩) (Ad (.bool (true)) rfl rfl (gF (vr (.bool (decide (((Bn b i).2.2:Nat)≠(0)))) rfl)) (fun hG18=>Yk.notB (mayT (vr (cond (!(decide (((Bn b i).2.2:Nat)≠(0)))) (.bool (false)) undef) rfl) hG18) ⟨rfl,rfl⟩) (oS rfl (Yk.pickOr (vr (.bool (decide (((Bn b i).2.2:Nat)≠(0)))) rfl) (vr (.bool (true)) rfl) (fun hA=>(mayT (vr (cond (!(decide (((Bn b i).2.2:Nat)≠(0)))) (.bool (true)) undef) rfl) (not_i hA))) (oZ (tN (av _ _ (At (vr (.bool (true)) (congrArg Value.bool (Bool.or_true _))) ?_)))))))))))))))))))
  refine sk fun bi aw=>(wt (oM rfl (oS rfl (Yk.nilCheck l (oS rfl (Yk.fieldAt A1 (vr (PQ r 0) rfl) (oS rfl (Yk.storeC (i:=2) (v:= .bool (false)) (vr (PQ r 2) rfl) (vr (.bool (false)) rfl) hb (by rw[Co];decide) MO rfl rfl fun af ag ah bj=> ?_))))))))
  clear hb
  have hr:=RB.keptE hr ah hap
  have hgr:w.grownBy af (some r):=Ag hgr ah (fun _ e=> .inl e)
  clear hE
  have hb:af.heap[r]? =some (.cells (AK ((⟨b,((i:Nat):Int),false⟩,⟨v⟩):Ch)).toArray 115 (0,0)):=Az ag (Dt (Ay v b (i) false) false);clear ag
  have bk:=bl hb
  refine oZ (tN (aw _ _ (sk fun bm ax=>(wt (oA rfl (oZ (tN (ax _ _ (Ao (Ap (An (fn:=Tryd.f69) _ rfl [NI 0] (NI 0) rfl ⟨rfl,trivial⟩ ?_)))))))))))
  exact⟨_,_,_,hP,rfl,hb,by omega,hgr⟩
 rcases hgl:AQ 0 (b.drop i)with _ | ⟨xn,xk⟩
 ·have hp:Bk b i=none:=by unfold Bk;rw[hgl];rfl
  have hP:Dx (0:Nat) (Bk b i) (i,true)=_:=GU hp
  refine tN (o _ _ (sk fun bn ay=> ?_))
  have x:Ext w (World.drew w):=(Below.refl _ _).drew
  have hb:=eb x hb
  have hgr:w.grownBy (World.drew w) (some r):=Ag hgr x.grown (fun _ e=>by cases e)
  have hE:=hE.trans x
  refine BL [(0,7,PQ r 0),(1,8,PQ r 0),(2,9,PQ r 0),(3,10,v),(4,11,PQ r 0),(5,12,PQ r 0),(6,13,PQ r 1),(7,14,NI i),(8,15, .tuple #[NI 0,NI 0,NI 6]),(9,6, .tuple #[NI 0,NI 0,NI 6]),(10,16,NI 0),(11,17,NI 0),(12,18,NI 6)] [13,14,15] (fun wz=>wz.heap[r]? =some (.cells (AK (Ay v b (i) true)).toArray 115 (0,0))∧Ext w wz∧True) (fun _ _ ⟨hb,hE,_⟩ k=>⟨(eb k hb),(hE.trans k),trivial⟩) (by kernel_rfl) (by kernel_rfl) (by kernel_rfl) ⟨hb,hE,trivial⟩ ⟨fun g ⟨hb,hE,_⟩=>Yk.move l ⟨rfl,Ext.refl _⟩,fun g ⟨hb,hE,_⟩=>Yk.nilCheck (vr (PQ r 0) rfl) ⟨rfl,Ext.refl _⟩,fun g ⟨hb,hE,_⟩=>Yk.fieldAt BB (vr (PQ r 0) rfl) ⟨rfl,Ext.refl _⟩,fun g ⟨hb,hE,_⟩=>Yk.cell1 El rfl (vr (PQ r 0) rfl) (Ab hb (show(AK (Ay v b (i) true))[0]? =some (v:Value)from C2 (Ay v b (i) true))) ⟨rfl,Ext.refl _⟩,fun g ⟨hb,hE,_⟩=>Yk.move l ⟨rfl,Ext.refl _⟩,fun g ⟨hb,hE,_⟩=>Yk.nilCheck (vr (PQ r 0) rfl) ⟨rfl,Ext.refl _⟩,fun g ⟨hb,hE,_⟩=>Yk.fieldAt Bj (vr (PQ r 0) rfl) ⟨rfl,Ext.refl _⟩,fun g ⟨hb,hE,_⟩=>Yk.cell1 FI rfl (vr (PQ r 1) rfl) (Ab hb (show(AK (Ay v b (i) true))[1]? =some (NI i:Value)from CW (Ay v b (i) true))) ⟨rfl,Ext.refl _⟩,fun g ⟨hb,hE,_⟩=>Yk.callA2 Dn (vr v rfl) (vr (NI i) rfl) (((show Calls _ _ _ _ (fun e m=>e = .returned (.tuple #[NI 0,NI 0,NI 6])∧Ext _ m)from by have h:=Do _ v (b) (hr.keep hE) (i) (by omega) (by omega);rw[hgl]at h;exact h)).mono (by rintro e m ⟨rfl,hx⟩;exact⟨_,rfl,rfl,hx⟩)),fun g ⟨hb,hE,_⟩=>Yk.move (vr (.tuple #[NI 0,NI 0,NI 6]) rfl) ⟨rfl,Ext.refl _⟩,fun g ⟨hb,hE,_⟩=>Yk.extract (vs:= [NI 0,NI 0,NI 6]) (vr (.tuple #[NI 0,NI 0,NI 6]) rfl) (show _=some (NI 0:Value)from rfl) ⟨rfl,Ext.refl _⟩,fun g ⟨hb,hE,_⟩=>Yk.extract (vs:= [NI 0,NI 0,NI 6]) (vr (.tuple #[NI 0,NI 0,NI 6]) rfl) (show _=some (NI 0:Value)from rfl) ⟨rfl,Ext.refl _⟩,fun g ⟨hb,hE,_⟩=>Yk.extract (vs:= [NI 0,NI 0,NI 6]) (vr (.tuple #[NI 0,NI 0,NI 6]) rfl) (show _=some (NI 6:Value)from rfl) ⟨rfl,Ext.refl _⟩,trivial⟩ (AI rfl fun az y=> ?_)
  have hb:=eb y hb
  have hgr:w.grownBy az (some r):=Ag hgr y.grown (fun _ e=>by cases e)
  have hE:=hE.trans y
  refine AW (Yk.assign (vr (NI 0) rfl) ?_)
  refine⟨.inr ⟨hb,hE,trivial⟩,?_⟩
  refine AI rfl fun a0 z=> ?_
  have hb:=eb z hb
  have hgr:w.grownBy a0 (some r):=Ag hgr z.grown (fun _ e=>by cases e)
  have hE:=hE.trans z
  refine AW (Yk.assign (vr (NI 0) rfl) ?_)
  refine⟨.inr ⟨hb,hE,trivial⟩,?_⟩
  refine AI rfl fun a1 aa=> ?_
  have hb:=eb aa hb
  have hgr:w.grownBy a1 (some r):=Ag hgr aa.grown (fun _ e=>by cases e)
  have hE:=hE.trans aa
  refine AW (Yk.assign (vr (NI 6) rfl) ?_)
  refine⟨.inl rfl,?_⟩
  refine Cu ?_
  have hr:=(hr.keep hE)
  refine tN (ay _ _ (sk fun bo bp=>(sk fun bq a2=>(wt (oM rfl (oS rfl (Yk.eqI (a:=(6:Nat)) (b:=(0:Nat)) rfl rfl (Ci _ _ _ _) (oM rfl (oN (d:=21) rfl rfl rfl (vr (.bool (true)) (congrArg Value.bool (decide_eq_true (by decide)))) rfl (oN (d:=21) rfl rfl rfl (vr (.bool (true)) (congrArg Value.bool (decide_eq_true (by decide)))) rfl (oN (d:=21) rfl rfl rfl (vr (.bool (true)) (congrArg Value.bool (decide_eq_true (by decide)))) rfl (oN (d:=21) rfl rfl rfl (vr (.bool (true)) (congrArg Value.bool (decide_eq_true (by decide)))) rfl (oN (d:=21) rfl rfl rfl (vr (.bool (true)) (congrArg Value.bool (decide_eq_true (by decide)))) rfl (oS rfl (Yk.pickT (vr (.bool (true)) (congrArg Value.bool (decide_eq_true (by decide)))) (vr (.bool (true)) rfl) (oZ (tN (a2 _ _ (At (vr (.bool (true)) rfl) ?_)))))))))))))))))))
  refine sk fun br a3=>(wt (oM rfl (oS rfl (Yk.nilCheck l (oS rfl (Yk.fieldAt A1 (vr (PQ r 0) rfl) (oS rfl (Yk.storeC (i:=2) (v:= .bool (false)) (vr (PQ r 2) rfl) (vr (.bool (false)) rfl) hb (by rw[Co];decide) MO rfl rfl fun ai aj ak bs=> ?_))))))))
  clear hb
  have hr:=RB.keptE hr ak hap
  have hgr:w.grownBy ai (some r):=Ag hgr ak (fun _ e=> .inl e)
  clear hE
  have hb:ai.heap[r]? =some (.cells (AK ((⟨b,((i:Nat):Int),false⟩,⟨v⟩):Ch)).toArray 115 (0,0)):=Az aj (Dt (Ay v b (i) true) false);clear aj
  have bt:=bl hb
  refine oZ (tN (a3 _ _ (sk fun bu a4=>(wt (oA rfl (oZ (tN (a4 _ _ (Ao (Ap (An (fn:=Tryd.f69) _ rfl [NI 0] (NI 0) rfl ⟨rfl,trivial⟩ ?_)))))))))))
  exact⟨_,_,_,hP,rfl,hb,by omega,hgr⟩
 have hp:Bk b i=some (xn,i+xk):=by unfold Bk;rw[hgl];rfl
 have hle:=DA hi hp
 have hP:Dx (0:Nat) (Bk b i) (i,true)=_:=Cm hp
 refine tN (o _ _ (sk fun bv a5=> ?_))
 have ab:Ext w (World.drew w):=(Below.refl _ _).drew
 have hb:=eb ab hb
 have hgr:w.grownBy (World.drew w) (some r):=Ag hgr ab.grown (fun _ e=>by cases e)
 have hE:=hE.trans ab
 refine BL [(0,7,PQ r 0),(1,8,PQ r 0),(2,9,PQ r 0),(3,10,v),(4,11,PQ r 0),(5,12,PQ r 0),(6,13,PQ r 1),(7,14,NI i),(8,15, .tuple #[NI xn,NI (i+xk),NI 0]),(9,6, .tuple #[NI xn,NI (i+xk),NI 0]),(10,16,NI xn),(11,17,NI (i+xk)),(12,18,NI 0)] [13,14,15] (fun wz=>wz.heap[r]? =some (.cells (AK (Ay v b (i) true)).toArray 115 (0,0))∧Ext w wz∧True) (fun _ _ ⟨hb,hE,_⟩ k=>⟨(eb k hb),(hE.trans k),trivial⟩) (by kernel_rfl) (by kernel_rfl) (by kernel_rfl) ⟨hb,hE,trivial⟩ ⟨fun j ⟨hb,hE,_⟩=>Yk.move l ⟨rfl,Ext.refl _⟩,fun j ⟨hb,hE,_⟩=>Yk.nilCheck (vr (PQ r 0) rfl) ⟨rfl,Ext.refl _⟩,fun j ⟨hb,hE,_⟩=>Yk.fieldAt BB (vr (PQ r 0) rfl) ⟨rfl,Ext.refl _⟩,fun j ⟨hb,hE,_⟩=>Yk.cell1 El rfl (vr (PQ r 0) rfl) (Ab hb (show(AK (Ay v b (i) true))[0]? =some (v:Value)from C2 (Ay v b (i) true))) ⟨rfl,Ext.refl _⟩,fun j ⟨hb,hE,_⟩=>Yk.move l ⟨rfl,Ext.refl _⟩,fun j ⟨hb,hE,_⟩=>Yk.nilCheck (vr (PQ r 0) rfl) ⟨rfl,Ext.refl _⟩,fun j ⟨hb,hE,_⟩=>Yk.fieldAt Bj (vr (PQ r 0) rfl) ⟨rfl,Ext.refl _⟩,fun j ⟨hb,hE,_⟩=>Yk.cell1 FI rfl (vr (PQ r 1) rfl) (Ab hb (show(AK (Ay v b (i) true))[1]? =some (NI i:Value)from CW (Ay v b (i) true))) ⟨rfl,Ext.refl _⟩,fun j ⟨hb,hE,_⟩=>Yk.callA2 Dn (vr v rfl) (vr (NI i) rfl) (((show Calls _ _ _ _ (fun e m=>e = .returned (.tuple #[NI xn,NI (i+xk),NI 0])∧Ext _ m)from by have h:=Do _ v (b) (hr.keep hE) (i) (by omega) (by omega);rw[hgl]at h;exact h)).mono (by rintro e m ⟨rfl,hx⟩;exact⟨_,rfl,rfl,hx⟩)),fun j ⟨hb,hE,_⟩=>Yk.move (vr (.tuple #[NI xn,NI (i+xk),NI 0]) rfl) ⟨rfl,Ext.refl _⟩,fun j ⟨hb,hE,_⟩=>Yk.extract (vs:= [NI xn,NI (i+xk),NI 0]) (vr (.tuple #[NI xn,NI (i+xk),NI 0]) rfl) (show _=some (NI xn:Value)from rfl) ⟨rfl,Ext.refl _⟩,fun j ⟨hb,hE,_⟩=>Yk.extract (vs:= [NI xn,NI (i+xk),NI 0]) (vr (.tuple #[NI xn,NI (i+xk),NI 0]) rfl) (show _=some (NI (i+xk):Value)from rfl) ⟨rfl,Ext.refl _⟩,fun j ⟨hb,hE,_⟩=>Yk.extract (vs:= [NI xn,NI (i+xk),NI 0]) (vr (.tuple #[NI xn,NI (i+xk),NI 0]) rfl) (show _=some (NI 0:Value)from rfl) ⟨rfl,Ext.refl _⟩,trivial⟩ (AI rfl fun a6 ac=> ?_)
 have hb:=eb ac hb
 have hgr:w.grownBy a6 (some r):=Ag hgr ac.grown (fun _ e=>by cases e)
 have hE:=hE.trans ac
 refine AW (Yk.assign (vr (NI xn) rfl) ?_)
 refine⟨.inr ⟨hb,hE,trivial⟩,?_⟩
 refine AI rfl fun a7 ad=> ?_
 have hb:=eb ad hb
 have hgr:w.grownBy a7 (some r):=Ag hgr ad.grown (fun _ e=>by cases e)
 have hE:=hE.trans ad
 refine AW (Yk.assign (vr (NI (i+xk)) rfl) ?_)
 refine⟨.inr ⟨hb,hE,trivial⟩,?_⟩
 refine AI rfl fun a8 ae=> ?_
 have hb:=eb ae hb
 have hgr:w.grownBy a8 (some r):=Ag hgr ae.grown (fun _ e=>by cases e)
 have hE:=hE.trans ae
 refine AW (Yk.assign (vr (NI 0) rfl) ?_)
 refine⟨.inl rfl,?_⟩
 refine Cu ?_
 have hr:=(hr.keep hE)
 refine tN (a5 _ _ (sk fun bw a9=>(sk fun bx ba=>(wt (oM rfl (oS rfl (Yk.eqI (a:=(0:Nat)) (b:=(0:Nat)) rfl rfl (Ci _ _ _ _) (oM rfl (oY (d:=21) rfl rfl (vr (.bool (false)) (congrArg Value.bool (decide_eq_false (fun h=>h rfl)))) (Yk.move l (oY (d:=21) rfl rfl (vr (.bool (false)) (congrArg Value.bool (decide_eq_false (fun h=>h rfl)))) (Yk.nilCheck (vr (PQ r 0) rfl) (oY (d:=21) rfl rfl (vr (.bool (false)) (congrArg Value.bool (decide_eq_false (fun h=>h rfl)))) (Yk.fieldAt A1 (vr (PQ r 0) rfl) (oY (d:=21) rfl rfl (vr (.bool (false)) (congrArg Value.bool (decide_eq_false (fun h=>h rfl)))) (Yk.cell1 De rfl (vr (PQ r 2) rfl) (Ab hb (show(AK (Ay v b (i) true))[2]? =some (.bool (true):Value)from Cj (Ay v b (i) true))) (oY (d:=21) rfl rfl (vr (.bool (false)) (congrArg Value.bool (decide_eq_false (fun h=>h rfl)))) (Yk.notB (vr (.bool (true)) rfl) (oS rfl (Yk.pickF (vr (.bool (false)) (congrArg Value.bool (decide_eq_false (fun h=>h rfl)))) (vr (.bool (false)) rfl) (oZ (tN (ba _ _ (Am (vr (.bool (false)) rfl) ?_))))))))))))))))))))))))
 refine Ak (tN (a9 _ _ (sk fun bz bb=>(wt (oM rfl (oM rfl (oS rfl (Yk.nilCheck l (oS rfl (Yk.fieldAt Bj (vr (PQ r 0) rfl) (oS rfl (Yk.storeC (i:=1) (v:=NI (i+xk)) (vr (PQ r 1) rfl) (vr (NI (i+xk)) rfl) hb (by rw[Co];decide) Dm rfl rfl fun al am an b0=> ?_))))))))))))
 clear hb
 have hr:=RB.keptE hr an hap
 have hgr:w.grownBy al (some r):=Ag hgr an (fun _ e=> .inl e)
 clear hE
 have hb:al.heap[r]? =some (.cells (AK ((⟨b,((i+xk:Nat):Int),true⟩,⟨v⟩):Ch)).toArray 115 (0,0)):=Az am (HN (Ay v b (i) true) ((i+xk:Nat):Int));clear am
 have b1:=bl hb
 refine oZ (tN (bb _ _ (sk fun b2 bc=>(wt (oM rfl (oA rfl (oZ (tN (bc _ _ (Ao (An (fn:=Tryd.f69) _ rfl [NI xn] (NI xn) rfl ⟨rfl,trivial⟩ ?_)))))))))))
 exact⟨_,_,_,hP,rfl,hb,by omega,hgr⟩

theorem GH(w:World)(r:Nat)(v:Value)(b:Bs)(i:Nat)(k:Bool)(hb:w.heap[r]? =some (.cells (AK (Ay v b (i) k)).toArray 115 (0,0)))(hr:RB w v b)(hap:b= []∨OB v r)(hi:i≤b.length)(hl:b.length≤6000)(most:Nat):
  Calls Tryd.prog 70 #[PQ r 0,NI most] w fun e w' =>∃c n q,DK b most (i,k)=(c,(n,q))∧e = .returned (St c)∧w'.heap[r]? =some (.cells (AK (Ay v b (n) q)).toArray 115 (0,0))∧n≤b.length∧w.grownBy w' (some r):=by
 have hlr:=(bl hb)
 have hgr:=World.grownBy.refl w (some r)
 refine calls_of_wpF (args:= [PQ r 0,NI most]) Tryd.func70 rfl 39 rfl (Nat.le_of_ble_eq_true rfl) ?_
 intro aq hb
 have f:aq 0=(PQ r 0:Value):=hb.get 0
 have s:aq 1=(NI most:Value):=hb.get 1
 clear hb
 have hE:=Ext.refl w
 refine sk fun K1 t=>(wt (oA rfl (oZ ?_)))
 cases k
 ·have hP:Dx ([]:Bs) (BU b i most) (i,false)=_:=JC
  refine tN (t _ _ (sk fun K2 a9=> ?_))
  have u:Ext w (World.drew w):=(Below.refl _ _).drew
  have hb:=eb u hb
  have hgr:w.grownBy (World.drew w) (some r):=Ag hgr u.grown (fun _ e=>by cases e)
  have hE:=hE.trans u
  refine BL [(0,9,PQ r 0),(1,10,PQ r 0),(2,11,PQ r 0),(3,12,v),(4,13,PQ r 0),(5,14,PQ r 0),(6,15,PQ r 1),(7,16,NI i),(8,17,NI most),(9,18, .tuple #[St ((AE b i most).1),NI ((AE b i most).2.1),NI ((AE b i most).2.2)]),(10,8, .tuple #[St ((AE b i most).1),NI ((AE b i most).2.1),NI ((AE b i most).2.2)]),(11,19,St ((AE b i most).1)),(12,20,NI ((AE b i most).2.1)),(13,21,NI ((AE b i most).2.2))] [14,15,16] (fun wz=>wz.heap[r]? =some (.cells (AK (Ay v b (i) false)).toArray 115 (0,0))∧Ext w wz∧True) (fun _ _ ⟨hb,hE,_⟩ k=>⟨(eb k hb),(hE.trans k),trivial⟩) (by kernel_rfl) (by kernel_rfl) (by kernel_rfl) ⟨hb,hE,trivial⟩ ⟨fun g ⟨hb,hE,_⟩=>Yk.move f ⟨rfl,Ext.refl _⟩,fun g ⟨hb,hE,_⟩=>Yk.nilCheck (vr (PQ r 0) rfl) ⟨rfl,Ext.refl _⟩,fun g ⟨hb,hE,_⟩=>Yk.fieldAt BB (vr (PQ r 0) rfl) ⟨rfl,Ext.refl _⟩,fun g ⟨hb,hE,_⟩=>Yk.cell1 El rfl (vr (PQ r 0) rfl) (Ab hb (show(AK (Ay v b (i) false))[0]? =some (v:Value)from C2 (Ay v b (i) false))) ⟨rfl,Ext.refl _⟩,fun g ⟨hb,hE,_⟩=>Yk.move f ⟨rfl,Ext.refl _⟩,fun g ⟨hb,hE,_⟩=>Yk.nilCheck (vr (PQ r 0) rfl) ⟨rfl,Ext.refl _⟩,fun g ⟨hb,hE,_⟩=>Yk.fieldAt Bj (vr (PQ r 0) rfl) ⟨rfl,Ext.refl _⟩,fun g ⟨hb,hE,_⟩=>Yk.cell1 FI rfl (vr (PQ r 1) rfl) (Ab hb (show(AK (Ay v b (i) false))[1]? =some (NI i:Value)from CW (Ay v b (i) false))) ⟨rfl,Ext.refl _⟩,fun g ⟨hb,hE,_⟩=>Yk.move s ⟨rfl,Ext.refl _⟩,fun g ⟨hb,hE,_⟩=>Yk.callA3 Ek (vr v rfl) (vr (NI i) rfl) (vr (NI most) rfl) ((Dh _ v b (hr.keep hE) i most hi (by omega)).mono (by rintro e p ⟨rfl,hx⟩;exact⟨_,rfl,rfl,hx⟩)),fun g ⟨hb,hE,_⟩=>Yk.move (vr (.tuple #[St ((AE b i most).1),NI ((AE b i most).2.1),NI ((AE b i most).2.2)]) rfl) ⟨rfl,Ext.refl _⟩,fun g ⟨hb,hE,_⟩=>Yk.extract (vs:= [St ((AE b i most).1),NI ((AE b i most).2.1),NI ((AE b i most).2.2)]) (vr (.tuple #[St ((AE b i most).1),NI ((AE b i most).2.1),NI ((AE b i most).2.2)]) rfl) (show _=some (St ((AE b i most).1):Value)from rfl) ⟨rfl,Ext.refl _⟩,fun g ⟨hb,hE,_⟩=>Yk.extract (vs:= [St ((AE b i most).1),NI ((AE b i most).2.1),NI ((AE b i most).2.2)]) (vr (.tuple #[St ((AE b i most).1),NI ((AE b i most).2.1),NI ((AE b i most).2.2)]) rfl) (show _=some (NI ((AE b i most).2.1):Value)from rfl) ⟨rfl,Ext.refl _⟩,fun g ⟨hb,hE,_⟩=>Yk.extract (vs:= [St ((AE b i most).1),NI ((AE b i most).2.1),NI ((AE b i most).2.2)]) (vr (.tuple #[St ((AE b i most).1),NI ((AE b i most).2.1),NI ((AE b i most).2.2)]) rfl) (show _=some (NI ((AE b i most).2.2):Value)from rfl) ⟨rfl,Ext.refl _⟩,trivial⟩ (AI rfl fun w6 x=> ?_)
  have hb:=eb x hb
  have hgr:w.grownBy w6 (some r):=Ag hgr x.grown (fun _ e=>by cases e)
  have hE:=hE.trans x
  refine AW (Yk.assign (vr (St ((AE b i most).1)) rfl) ?_)
  refine⟨.inr ⟨hb,hE,trivial⟩,?_⟩
  refine AI rfl fun w8 y=> ?_
  have hb:=eb y hb
  have hgr:w.grownBy w8 (some r):=Ag hgr y.grown (fun _ e=>by cases e)
  have hE:=hE.trans y
  refine AW (Yk.assign (vr (NI ((AE b i most).2.1)) rfl) ?_)
  refine⟨.inr ⟨hb,hE,trivial⟩,?_⟩
  refine AI rfl fun bc z=> ?_
  have hb:=eb z hb
  have hgr:w.grownBy bc (some r):=Ag hgr z.grown (fun _ e=>by cases e)
  have hE:=hE.trans z
  refine AW (Yk.assign (vr (NI ((AE b i most).2.2)) rfl) ?_)
  refine⟨.inl rfl,?_⟩
  refine Cu ?_
  have hr:=(hr.keep hE)
  refine tN (a9 _ _ (sk fun cd ce=>(sk fun cf bd=>(wt (oM rfl (oS rfl (Yk.eqI (a:=((AE b i most).2.2:Nat)) (b:=(0:Nat)) rfl rfl (Ci _ _ _ _) (oM rfl (Ad (PQ r 0) rfl rfl (gF (vr (.bool (decide (((AE b i most).2.2:Nat)≠(0)))) rfl)) (fun hG14=>Yk.move f ⟨rfl,rfl⟩) (Ad (PQ r 0) rfl rfl (gF (vr (.bool (decide (((AE b i most).2.2:Nat)≠(0)))) rfl)) (fun hG15=>Yk.nilCheck (mayT (vr (cond (!(decide (((AE b i most).2.2:Nat)≠(0)))) (PQ r 0) undef) rfl) hG15) ⟨rfl,rfl⟩) (Ad (PQ r 2) rfl rfl (gF (vr (.bool (decide (((AE b i most).2.2:Nat)≠(0)))) rfl)) (fun hG16=>Yk.fieldAt A1 (mayT (vr (cond (!(decide (((AE b i most).2.2:Nat)≠(0)))) (PQ r 0) undef) rfl) hG16) ⟨rfl,rfl⟩) (Ad (.bool (false)) rfl rfl (gF (vr (.bool (decide (((AE b i most).2.2:Nat)≠(0)))) rfl)) (fun hG17=>Yk.cell1 De rfl (mayT (vr (cond (!(decide (((AE b i most).2.2:Nat)≠(0)))) (PQ r 2) undef) rfl) hG17) (Ab hb (show(AK (Ay v b (i) false))[2]? =some (.bool (false):Value)from Cj (Ay v b (i) false))) ⟨rfl,rfl⟩) (Ad (.bool (true)) rfl rfl (gF (vr (.bool (decide (((AE b i most).2.2:Nat)≠(0)))) rfl)) (fun hG18=>Yk.notB (mayT (vr (cond (!(decide (((AE b i most).2.2:Nat)≠(0)))) (.bool (false)) undef) rfl) hG18) ⟨rfl,rfl⟩) (oS rfl (Yk.pickOr (vr (.bool (decide (((AE b i most).2.2:Nat)≠(0)))) rfl) (vr (.bool (true)) rfl) (fun hA=>(mayT (vr (cond (!(decide (((AE b i most).2.2:Nat)≠(0)))) (.bool (true)) undef) rfl) (not_i hA))) (oZ (tN (bd _ _ (At (vr (.bool (true)) (congrArg Value.bool (Bool.or_true _))) ?_)))))))))))))))))))
  refine sk fun cg be=>(wt (oM rfl (oS rfl (Yk.nilCheck f (oS rfl (Yk.fieldAt A1 (vr (PQ r 0) rfl) (oS rfl (Yk.storeC (i:=2) (v:= .bool (false)) (vr (PQ r 2) rfl) (vr (.bool (false)) rfl) hb (by rw[Co];decide) MO rfl rfl fun ar au av ch=> ?_))))))))
  clear hb
  have hr:=RB.keptE hr av hap
  have hgr:w.grownBy ar (some r):=Ag hgr av (fun _ e=> .inl e)
  clear hE
  have hb:ar.heap[r]? =some (.cells (AK ((⟨b,((i:Nat):Int),false⟩,⟨v⟩):Ch)).toArray 115 (0,0)):=Az au (Dt (Ay v b (i) false) false);clear au
  have ci:=bl hb
  refine oZ (tN (be _ _ (sk fun cj bf=>(wt (oA rfl (oZ (tN (bf _ _ (Ao (Ap (An (fn:=Tryd.f70) _ rfl [St (([]:List UInt8))] (St (([]:List UInt8))) rfl ⟨rfl,trivial⟩ ?_)))))))))))
  exact⟨_,_,_,hP,rfl,hb,by omega,hgr⟩
 rcases hgl:AQ 0 (b.drop i)with _ | ⟨xn,xk⟩
 ·have hp:BU b i most=none:=by unfold BU;rw[hgl]
  have hq:=Gd (mx:=most) hgl
  have hP:Dx ([]:Bs) (BU b i most) (i,true)=_:=GU hp
  refine tN (t _ _ (sk fun ck bg=> ?_))
  have aa:Ext w (World.drew w):=(Below.refl _ _).drew
  have hb:=eb aa hb
  have hgr:w.grownBy (World.drew w) (some r):=Ag hgr aa.grown (fun _ e=>by cases e)
  have hE:=hE.trans aa
  refine BL [(0,9,PQ r 0),(1,10,PQ r 0),(2,11,PQ r 0),(3,12,v),(4,13,PQ r 0),(5,14,PQ r 0),(6,15,PQ r 1),(7,16,NI i),(8,17,NI most),(9,18, .tuple #[St (([]:List UInt8)),NI 0,NI 6]),(10,8, .tuple #[St (([]:List UInt8)),NI 0,NI 6]),(11,19,St (([]:List UInt8))),(12,20,NI 0),(13,21,NI 6)] [14,15,16] (fun wz=>wz.heap[r]? =some (.cells (AK (Ay v b (i) true)).toArray 115 (0,0))∧Ext w wz∧True) (fun _ _ ⟨hb,hE,_⟩ k=>⟨(eb k hb),(hE.trans k),trivial⟩) (by kernel_rfl) (by kernel_rfl) (by kernel_rfl) ⟨hb,hE,trivial⟩ ⟨fun j ⟨hb,hE,_⟩=>Yk.move f ⟨rfl,Ext.refl _⟩,fun j ⟨hb,hE,_⟩=>Yk.nilCheck (vr (PQ r 0) rfl) ⟨rfl,Ext.refl _⟩,fun j ⟨hb,hE,_⟩=>Yk.fieldAt BB (vr (PQ r 0) rfl) ⟨rfl,Ext.refl _⟩,fun j ⟨hb,hE,_⟩=>Yk.cell1 El rfl (vr (PQ r 0) rfl) (Ab hb (show(AK (Ay v b (i) true))[0]? =some (v:Value)from C2 (Ay v b (i) true))) ⟨rfl,Ext.refl _⟩,fun j ⟨hb,hE,_⟩=>Yk.move f ⟨rfl,Ext.refl _⟩,fun j ⟨hb,hE,_⟩=>Yk.nilCheck (vr (PQ r 0) rfl) ⟨rfl,Ext.refl _⟩,fun j ⟨hb,hE,_⟩=>Yk.fieldAt Bj (vr (PQ r 0) rfl) ⟨rfl,Ext.refl _⟩,fun j ⟨hb,hE,_⟩=>Yk.cell1 FI rfl (vr (PQ r 1) rfl) (Ab hb (show(AK (Ay v b (i) true))[1]? =some (NI i:Value)from CW (Ay v b (i) true))) ⟨rfl,Ext.refl _⟩,fun j ⟨hb,hE,_⟩=>Yk.move s ⟨rfl,Ext.refl _⟩,fun j ⟨hb,hE,_⟩=>Yk.callA3 Ek (vr v rfl) (vr (NI i) rfl) (vr (NI most) rfl) (((show Calls _ _ _ _ (fun e p=>e = .returned (.tuple #[St (([]:List UInt8)),NI 0,NI 6])∧Ext _ p)from by have h:=Dh _ v b (hr.keep hE) i most hi (by omega);rw[hq]at h;exact h)).mono (by rintro e p ⟨rfl,hx⟩;exact⟨_,rfl,rfl,hx⟩)),fun j ⟨hb,hE,_⟩=>Yk.move (vr (.tuple #[St (([]:List UInt8)),NI 0,NI 6]) rfl) ⟨rfl,Ext.refl _⟩,fun j ⟨hb,hE,_⟩=>Yk.extract (vs:= [St (([]:List UInt8)),NI 0,NI 6]) (vr (.tuple #[St (([]:List UInt8)),NI 0,NI 6]) rfl) (show _=some (St (([]:List UInt8)):Value)from rfl) ⟨rfl,Ext.refl _⟩,fun j ⟨hb,hE,_⟩=>Yk.extract (vs:= [St (([]:List UInt8)),NI 0,NI 6]) (vr (.tuple #[St (([]:List UInt8)),NI 0,NI 6]) rfl) (show _=some (NI 0:Value)from rfl) ⟨rfl,Ext.refl _⟩,fun j ⟨hb,hE,_⟩=>Yk.extract (vs:= [St (([]:List UInt8)),NI 0,NI 6]) (vr (.tuple #[St (([]:List UInt8)),NI 0,NI 6]) rfl) (show _=some (NI 6:Value)from rfl) ⟨rfl,Ext.refl _⟩,trivial⟩ (AI rfl fun bh ab=> ?_)
  have hb:=eb ab hb
  have hgr:w.grownBy bh (some r):=Ag hgr ab.grown (fun _ e=>by cases e)
  have hE:=hE.trans ab
  refine AW (Yk.assign (vr (St (([]:List UInt8))) rfl) ?_)
  refine⟨.inr ⟨hb,hE,trivial⟩,?_⟩
  refine AI rfl fun bi ac=> ?_
  have hb:=eb ac hb
  have hgr:w.grownBy bi (some r):=Ag hgr ac.grown (fun _ e=>by cases e)
  have hE:=hE.trans ac
  refine AW (Yk.assign (vr (NI 0) rfl) ?_)
  refine⟨.inr ⟨hb,hE,trivial⟩,?_⟩
  refine AI rfl fun bj ad=> ?_
  have hb:=eb ad hb
  have hgr:w.grownBy bj (some r):=Ag hgr ad.grown (fun _ e=>by cases e)
  have hE:=hE.trans ad
  refine AW (Yk.assign (vr (NI 6) rfl) ?_)
  refine⟨.inl rfl,?_⟩
  refine Cu ?_
  have hr:=(hr.keep hE)
  refine tN (bg _ _ (sk fun cl cm=>(sk fun cn bk=>(wt (oM rfl (oS rfl (Yk.eqI (a:=(6:Nat)) (b:=(0:Nat)) rfl rfl (Ci _ _ _ _) (oM rfl (oN (d:=24) rfl rfl rfl (vr (.bool (true)) (congrArg Value.bool (decide_eq_true (by decide)))) rfl (oN (d:=24) rfl rfl rfl (vr (.bool (true)) (congrArg Value.bool (decide_eq_true (by decide)))) rfl (oN (d:=24) rfl rfl rfl (vr (.bool (true)) (congrArg Value.bool (decide_eq_true (by decide)))) rfl (oN (d:=24) rfl rfl rfl (vr (.bool (true)) (congrArg Value.bool (decide_eq_true (by decide)))) rfl (oN (d:=24) rfl rfl rfl (vr (.bool (true)) (congrArg Value.bool (decide_eq_true (by decide)))) rfl (oS rfl (Yk.pickT (vr (.bool (true)) (congrArg Value.bool (decide_eq_true (by decide)))) (vr (.bool (true)) rfl) (oZ (tN (bk _ _ (At (vr (.bool (true)) rfl) ?_)))))))))))))))))))
  refine sk fun co bm=>(wt (oM rfl (oS rfl (Yk.nilCheck f (oS rfl (Yk.fieldAt A1 (vr (PQ r 0) rfl) (oS rfl (Yk.storeC (i:=2) (v:= .bool (false)) (vr (PQ r 2) rfl) (vr (.bool (false)) rfl) hb (by rw[Co];decide) MO rfl rfl fun aw ax ay cp=> ?_))))))))
  clear hb
  have hr:=RB.keptE hr ay hap
  have hgr:w.grownBy aw (some r):=Ag hgr ay (fun _ e=> .inl e)
  clear hE
  have hb:aw.heap[r]? =some (.cells (AK ((⟨b,((i:Nat):Int),false⟩,⟨v⟩):Ch)).toArray 115 (0,0)):=Az ax (Dt (Ay v b (i) true) false);clear ax
  have cq:=bl hb
  refine oZ (tN (bm _ _ (sk fun cr bn=>(wt (oA rfl (oZ (tN (bn _ _ (Ao (Ap (An (fn:=Tryd.f70) _ rfl [St (([]:List UInt8))] (St (([]:List UInt8))) rfl ⟨rfl,trivial⟩ ?_)))))))))))
  exact⟨_,_,_,hP,rfl,hb,by omega,hgr⟩
 have hq:=Ge (mx:=most) hgl
 by_cases hm:most<xn
 ·have hp:BU b i most=none:=by unfold BU;rw[hgl];exact if_pos hm
  rw[if_pos hm]at hq
  have hP:Dx ([]:Bs) (BU b i most) (i,true)=_:=GU hp
  refine tN (t _ _ (sk fun cs bo=> ?_))
  have ae:Ext w (World.drew w):=(Below.refl _ _).drew
  have hb:=eb ae hb
  have hgr:w.grownBy (World.drew w) (some r):=Ag hgr ae.grown (fun _ e=>by cases e)
  have hE:=hE.trans ae
  refine BL [(0,9,PQ r 0),(1,10,PQ r 0),(2,11,PQ r 0),(3,12,v),(4,13,PQ r 0),(5,14,PQ r 0),(6,15,PQ r 1),(7,16,NI i),(8,17,NI most),(9,18, .tuple #[St (([]:List UInt8)),NI 0,NI 2]),(10,8, .tuple #[St (([]:List UInt8)),NI 0,NI 2]),(11,19,St (([]:List UInt8))),(12,20,NI 0),(13,21,NI 2)] [14,15,16] (fun wz=>wz.heap[r]? =some (.cells (AK (Ay v b (i) true)).toArray 115 (0,0))∧Ext w wz∧True) (fun _ _ ⟨hb,hE,_⟩ k=>⟨(eb k hb),(hE.trans k),trivial⟩) (by kernel_rfl) (by kernel_rfl) (by kernel_rfl) ⟨hb,hE,trivial⟩ ⟨fun l ⟨hb,hE,_⟩=>Yk.move f ⟨rfl,Ext.refl _⟩,fun l ⟨hb,hE,_⟩=>Yk.nilCheck (vr (PQ r 0) rfl) ⟨rfl,Ext.refl _⟩,fun l ⟨hb,hE,_⟩=>Yk.fieldAt BB (vr (PQ r 0) rfl) ⟨rfl,Ext.refl _⟩,fun l ⟨hb,hE,_⟩=>Yk.cell1 El rfl (vr (PQ r 0) rfl) (Ab hb (show(AK (Ay v b (i) true))[0]? =some (v:Value)from C2 (Ay v b (i) true))) ⟨rfl,Ext.refl _⟩,fun l ⟨hb,hE,_⟩=>Yk.move f ⟨rfl,Ext.refl _⟩,fun l ⟨hb,hE,_⟩=>Yk.nilCheck (vr (PQ r 0) rfl) ⟨rfl,Ext.refl _⟩,fun l ⟨hb,hE,_⟩=>Yk.fieldAt Bj (vr (PQ r 0) rfl) ⟨rfl,Ext.refl _⟩,fun l ⟨hb,hE,_⟩=>Yk.cell1 FI rfl (vr (PQ r 1) rfl) (Ab hb (show(AK (Ay v b (i) true))[1]? =some (NI i:Value)from CW (Ay v b (i) true))) ⟨rfl,Ext.refl _⟩,fun l ⟨hb,hE,_⟩=>Yk.move s ⟨rfl,Ext.refl _⟩,fun l ⟨hb,hE,_⟩=>Yk.callA3 Ek (vr v rfl) (vr (NI i) rfl) (vr (NI most) rfl) (((show Calls _ _ _ _ (fun e p=>e = .returned (.tuple #[St (([]:List UInt8)),NI 0,NI 2])∧Ext _ p)from by have h:=Dh _ v b (hr.keep hE) i most hi (by omega);rw[hq]at h;exact h)).mono (by rintro e p ⟨rfl,hx⟩;exact⟨_,rfl,rfl,hx⟩)),fun l ⟨hb,hE,_⟩=>Yk.move (vr (.tuple #[St (([]:List UInt8)),NI 0,NI 2]) rfl) ⟨rfl,Ext.refl _⟩,fun l ⟨hb,hE,_⟩=>Yk.extract (vs:= [St (([]:List UInt8)),NI 0,NI 2]) (vr (.tuple #[St (([]:List UInt8)),NI 0,NI 2]) rfl) (show _=some (St (([]:List UInt8)):Value)from rfl) ⟨rfl,Ext.refl _⟩,fun l ⟨hb,hE,_⟩=>Yk.extract (vs:= [St (([]:List UInt8)),NI 0,NI 2]) (vr (.tuple #[St (([]:List UInt8)),NI 0,NI 2]) rfl) (show _=some (NI 0:Value)from rfl) ⟨rfl,Ext.refl _⟩,fun l ⟨hb,hE,_⟩=>Yk.extract (vs:= [St (([]:List UInt8)),NI 0,NI 2]) (vr (.tuple #[St (([]:List UInt8)),NI 0,NI 2]) rfl) (show _=some (NI 2:Value)from rfl) ⟨rfl,Ext.refl _⟩,trivial⟩ (AI rfl fun bp af=> ?_)
  have hb:=eb af hb
  have hgr:w.grownBy bp (some r):=Ag hgr af.grown (fun _ e=>by cases e)
  have hE:=hE.trans af
  refine AW (Yk.assign (vr (St (([]:List UInt8))) rfl) ?_)
  refine⟨.inr ⟨hb,hE,trivial⟩,?_⟩
  refine AI rfl fun bq ag=> ?_
  have hb:=eb ag hb
  have hgr:w.grownBy bq (some r):=Ag hgr ag.grown (fun _ e=>by cases e)
  have hE:=hE.trans ag
  refine AW (Yk.assign (vr (NI 0) rfl) ?_)
  refine⟨.inr ⟨hb,hE,trivial⟩,?_⟩
  refine AI rfl fun br ah=> ?_
  have hb:=eb ah hb
  have hgr:w.grownBy br (some r):=Ag hgr ah.grown (fun _ e=>by cases e)
  have hE:=hE.trans ah
  refine AW (Yk.assign (vr (NI 2) rfl) ?_)
  refine⟨.inl rfl,?_⟩
  refine Cu ?_
  have hr:=(hr.keep hE)
  refine tN (bo _ _ (sk fun ct cu=>(sk fun cv bs=>(wt (oM rfl (oS rfl (Yk.eqI (a:=(2:Nat)) (b:=(0:Nat)) rfl rfl (Ci _ _ _ _) (oM rfl (oN (d:=24) rfl rfl rfl (vr (.bool (true)) (congrArg Value.bool (decide_eq_true (by decide)))) rfl (oN (d:=24) rfl rfl rfl (vr (.bool (true)) (congrArg Value.bool (decide_eq_true (by decide)))) rfl (oN (d:=24) rfl rfl rfl (vr (.bool (true)) (congrArg Value.bool (decide_eq_true (by decide)))) rfl (oN (d:=24) rfl rfl rfl (vr (.bool (true)) (congrArg Value.bool (decide_eq_true (by decide)))) rfl (oN (d:=24) rfl rfl rfl (vr (.bool (true)) (congrArg Value.bool (decide_eq_true (by decide)))) rfl (oS rfl (Yk.pickT (vr (.bool (true)) (congrArg Value.bool (decide_eq_true (by decide)))) (vr (.bool (true)) rfl) (oZ (tN (bs _ _ (At (vr (.bool (true)) rfl) ?_)))))))))))))))))))
  refine sk fun cw bt=>(wt (oM rfl (oS rfl (Yk.nilCheck f (oS rfl (Yk.fieldAt A1 (vr (PQ r 0) rfl) (oS rfl (Yk.storeC (i:=2) (v:= .bool (false)) (vr (PQ r 2) rfl) (vr (.bool (false)) rfl) hb (by rw[Co];decide) MO rfl rfl fun az a0 a1 cx=> ?_))))))))
  clear hb
  have hr:=RB.keptE hr a1 hap
  have hgr:w.grownBy az (some r):=Ag hgr a1 (fun _ e=> .inl e)
  clear hE
  have hb:az.heap[r]? =some (.cells (AK ((⟨b,((i:Nat):Int),false⟩,⟨v⟩):Ch)).toArray 115 (0,0)):=Az a0 (Dt (Ay v b (i) true) false);clear a0
  have cy:=bl hb
  refine oZ (tN (bt _ _ (sk fun cz bu=>(wt (oA rfl (oZ (tN (bu _ _ (Ao (Ap (An (fn:=Tryd.f70) _ rfl [St (([]:List UInt8))] (St (([]:List UInt8))) rfl ⟨rfl,trivial⟩ ?_)))))))))))
  exact⟨_,_,_,hP,rfl,hb,by omega,hgr⟩
 obtain⟨c0,hak,c1⟩:=GF hi hgl
 by_cases a2:b.length<i+xk+xn
 ·have hp:BU b i most=none:=by unfold BU;rw[hgl];exact(if_neg hm).trans (if_pos a2)
  rw[if_neg hm,if_pos (by omega)]at hq
  have hP:Dx ([]:Bs) (BU b i most) (i,true)=_:=GU hp
  refine tN (t _ _ (sk fun c2 bv=> ?_))
  have ai:Ext w (World.drew w):=(Below.refl _ _).drew
  have hb:=eb ai hb
  have hgr:w.grownBy (World.drew w) (some r):=Ag hgr ai.grown (fun _ e=>by cases e)
  have hE:=hE.trans ai
  refine BL [(0,9,PQ r 0),(1,10,PQ r 0),(2,11,PQ r 0),(3,12,v),(4,13,PQ r 0),(5,14,PQ r 0),(6,15,PQ r 1),(7,16,NI i),(8,17,NI most),(9,18, .tuple #[St (([]:List UInt8)),NI 0,NI 6]),(10,8, .tuple #[St (([]:List UInt8)),NI 0,NI 6]),(11,19,St (([]:List UInt8))),(12,20,NI 0),(13,21,NI 6)] [14,15,16] (fun wz=>wz.heap[r]? =some (.cells (AK (Ay v b (i) true)).toArray 115 (0,0))∧Ext w wz∧True) (fun _ _ ⟨hb,hE,_⟩ k=>⟨(eb k hb),(hE.trans k),trivial⟩) (by kernel_rfl) (by kernel_rfl) (by kernel_rfl) ⟨hb,hE,trivial⟩ ⟨fun m ⟨hb,hE,_⟩=>Yk.move f ⟨rfl,Ext.refl _⟩,fun m ⟨hb,hE,_⟩=>Yk.nilCheck (vr (PQ r 0) rfl) ⟨rfl,Ext.refl _⟩,fun m ⟨hb,hE,_⟩=>Yk.fieldAt BB (vr (PQ r 0) rfl) ⟨rfl,Ext.refl _⟩,fun m ⟨hb,hE,_⟩=>Yk.cell1 El rfl (vr (PQ r 0) rfl) (Ab hb (show(AK (Ay v b (i) true))[0]? =some (v:Value)from C2 (Ay v b (i) true))) ⟨rfl,Ext.refl _⟩,fun m ⟨hb,hE,_⟩=>Yk.move f ⟨rfl,Ext.refl _⟩,fun m ⟨hb,hE,_⟩=>Yk.nilCheck (vr (PQ r 0) rfl) ⟨rfl,Ext.refl _⟩,fun m ⟨hb,hE,_⟩=>Yk.fieldAt Bj (vr (PQ r 0) rfl) ⟨rfl,Ext.refl _⟩,fun m ⟨hb,hE,_⟩=>Yk.cell1 FI rfl (vr (PQ r 1) rfl) (Ab hb (show(AK (Ay v b (i) true))[1]? =some (NI i:Value)from CW (Ay v b (i) true))) ⟨rfl,Ext.refl _⟩,fun m ⟨hb,hE,_⟩=>Yk.move s ⟨rfl,Ext.refl _⟩,fun m ⟨hb,hE,_⟩=>Yk.callA3 Ek (vr v rfl) (vr (NI i) rfl) (vr (NI most) rfl) (((show Calls _ _ _ _ (fun e p=>e = .returned (.tuple #[St (([]:List UInt8)),NI 0,NI 6])∧Ext _ p)from by have h:=Dh _ v b (hr.keep hE) i most hi (by omega);rw[hq]at h;exact h)).mono (by rintro e p ⟨rfl,hx⟩;exact⟨_,rfl,rfl,hx⟩)),fun m ⟨hb,hE,_⟩=>Yk.move (vr (.tuple #[St (([]:List UInt8)),NI 0,NI 6]) rfl) ⟨rfl,Ext.refl _⟩,fun m ⟨hb,hE,_⟩=>Yk.extract (vs:= [St (([]:List UInt8)),NI 0,NI 6]) (vr (.tuple #[St (([]:List UInt8)),NI 0,NI 6]) rfl) (show _=some (St (([]:List UInt8)):Value)from rfl) ⟨rfl,Ext.refl _⟩,fun m ⟨hb,hE,_⟩=>Yk.extract (vs:= [St (([]:List UInt8)),NI 0,NI 6]) (vr (.tuple #[St (([]:List UInt8)),NI 0,NI 6]) rfl) (show _=some (NI 0:Value)from rfl) ⟨rfl,Ext.refl _⟩,fun m ⟨hb,hE,_⟩=>Yk.extract (vs:= [St (([]:List UInt8)),NI 0,NI 6]) (vr (.tuple #[St (([]:List UInt8)),NI 0,NI 6]) rfl) (show _=some (NI 6:Value)from rfl) ⟨rfl,Ext.refl _⟩,trivial⟩ (AI rfl fun bw aj=> ?_)
  have hb:=eb aj hb
  have hgr:w.grownBy bw (some r):=Ag hgr aj.grown (fun _ e=>by cases e)
  have hE:=hE.trans aj
  refine AW (Yk.assign (vr (St (([]:List UInt8))) rfl) ?_)
  refine⟨.inr ⟨hb,hE,trivial⟩,?_⟩
  refine AI rfl fun bx ak=> ?_
  have hb:=eb ak hb
  have hgr:w.grownBy bx (some r):=Ag hgr ak.grown (fun _ e=>by cases e)
  have hE:=hE.trans ak
  refine AW (Yk.assign (vr (NI 0) rfl) ?_)
  refine⟨.inr ⟨hb,hE,trivial⟩,?_⟩
  refine AI rfl fun bz al=> ?_
  have hb:=eb al hb
  have hgr:w.grownBy bz (some r):=Ag hgr al.grown (fun _ e=>by cases e)
  have hE:=hE.trans al
  refine AW (Yk.assign (vr (NI 6) rfl) ?_)
  refine⟨.inl rfl,?_⟩
  refine Cu ?_
  have hr:=(hr.keep hE)
  refine tN (bv _ _ (sk fun c3 c4=>(sk fun c5 b0=>(wt (oM rfl (oS rfl (Yk.eqI (a:=(6:Nat)) (b:=(0:Nat)) rfl rfl (Ci _ _ _ _) (oM rfl (oN (d:=24) rfl rfl rfl (vr (.bool (true)) (congrArg Value.bool (decide_eq_true (by decide)))) rfl (oN (d:=24) rfl rfl rfl (vr (.bool (true)) (congrArg Value.bool (decide_eq_true (by decide)))) rfl (oN (d:=24) rfl rfl rfl (vr (.bool (true)) (congrArg Value.bool (decide_eq_true (by decide)))) rfl (oN (d:=24) rfl rfl rfl (vr (.bool (true)) (congrArg Value.bool (decide_eq_true (by decide)))) rfl (oN (d:=24) rfl rfl rfl (vr (.bool (true)) (congrArg Value.bool (decide_eq_true (by decide)))) rfl (oS rfl (Yk.pickT (vr (.bool (true)) (congrArg Value.bool (decide_eq_true (by decide)))) (vr (.bool (true)) rfl) (oZ (tN (b0 _ _ (At (vr (.bool (true)) rfl) ?_)))))))))))))))))))
  refine sk fun c6 b1=>(wt (oM rfl (oS rfl (Yk.nilCheck f (oS rfl (Yk.fieldAt A1 (vr (PQ r 0) rfl) (oS rfl (Yk.storeC (i:=2) (v:= .bool (false)) (vr (PQ r 2) rfl) (vr (.bool (false)) rfl) hb (by rw[Co];decide) MO rfl rfl fun a3 a4 a5 c7=> ?_))))))))
  clear hb
  have hr:=RB.keptE hr a5 hap
  have hgr:w.grownBy a3 (some r):=Ag hgr a5 (fun _ e=> .inl e)
  clear hE
  have hb:a3.heap[r]? =some (.cells (AK ((⟨b,((i:Nat):Int),false⟩,⟨v⟩):Ch)).toArray 115 (0,0)):=Az a4 (Dt (Ay v b (i) true) false);clear a4
  have c8:=bl hb
  refine oZ (tN (b1 _ _ (sk fun c9 b2=>(wt (oA rfl (oZ (tN (b2 _ _ (Ao (Ap (An (fn:=Tryd.f70) _ rfl [St (([]:List UInt8))] (St (([]:List UInt8))) rfl ⟨rfl,trivial⟩ ?_)))))))))))
  exact⟨_,_,_,hP,rfl,hb,by omega,hgr⟩
 have hp:BU b i most=some ((b.drop (i+xk)).take xn,i+xk+xn):=by unfold BU;rw[hgl];exact(if_neg hm).trans (if_neg a2)
 rw[if_neg hm,if_neg (by omega)]at hq
 have hP:Dx ([]:Bs) (BU b i most) (i,true)=_:=Cm hp
 refine tN (t _ _ (sk fun da b3=> ?_))
 have am:Ext w (World.drew w):=(Below.refl _ _).drew
 have hb:=eb am hb
 have hgr:w.grownBy (World.drew w) (some r):=Ag hgr am.grown (fun _ e=>by cases e)
 have hE:=hE.trans am
 refine BL [(0,9,PQ r 0),(1,10,PQ r 0),(2,11,PQ r 0),(3,12,v),(4,13,PQ r 0),(5,14,PQ r 0),(6,15,PQ r 1),(7,16,NI i),(8,17,NI most),(9,18, .tuple #[St (((b.drop (i+xk)).take xn)),NI (i+xk+xn),NI 0]),(10,8, .tuple #[St (((b.drop (i+xk)).take xn)),NI (i+xk+xn),NI 0]),(11,19,St (((b.drop (i+xk)).take xn))),(12,20,NI (i+xk+xn)),(13,21,NI 0)] [14,15,16] (fun wz=>wz.heap[r]? =some (.cells (AK (Ay v b (i) true)).toArray 115 (0,0))∧Ext w wz∧True) (fun _ _ ⟨hb,hE,_⟩ k=>⟨(eb k hb),(hE.trans k),trivial⟩) (by kernel_rfl) (by kernel_rfl) (by kernel_rfl) ⟨hb,hE,trivial⟩ ⟨fun o ⟨hb,hE,_⟩=>Yk.move f ⟨rfl,Ext.refl _⟩,fun o ⟨hb,hE,_⟩=>Yk.nilCheck (vr (PQ r 0) rfl) ⟨rfl,Ext.refl _⟩,fun o ⟨hb,hE,_⟩=>Yk.fieldAt BB (vr (PQ r 0) rfl) ⟨rfl,Ext.refl _⟩,fun o ⟨hb,hE,_⟩=>Yk.cell1 El rfl (vr (PQ r 0) rfl) (Ab hb (show(AK (Ay v b (i) true))[0]? =some (v:Value)from C2 (Ay v b (i) true))) ⟨rfl,Ext.refl _⟩,fun o ⟨hb,hE,_⟩=>Yk.move f ⟨rfl,Ext.refl _⟩,fun o ⟨hb,hE,_⟩=>Yk.nilCheck (vr (PQ r 0) rfl) ⟨rfl,Ext.refl _⟩,fun o ⟨hb,hE,_⟩=>Yk.fieldAt Bj (vr (PQ r 0) rfl) ⟨rfl,Ext.refl _⟩,fun o ⟨hb,hE,_⟩=>Yk.cell1 FI rfl (vr (PQ r 1) rfl) (Ab hb (show(AK (Ay v b (i) true))[1]? =some (NI i:Value)from CW (Ay v b (i) true))) ⟨rfl,Ext.refl _⟩,fun o ⟨hb,hE,_⟩=>Yk.move s ⟨rfl,Ext.refl _⟩,fun o ⟨hb,hE,_⟩=>Yk.callA3 Ek (vr v rfl) (vr (NI i) rfl) (vr (NI most) rfl) (((show Calls _ _ _ _ (fun e p=>e = .returned (.tuple #[St (((b.drop (i+xk)).take xn)),NI (i+xk+xn),NI 0])∧Ext _ p)from by have h:=Dh _ v b (hr.keep hE) i most hi (by omega);rw[hq]at h;exact h)).mono (by rintro e p ⟨rfl,hx⟩;exact⟨_,rfl,rfl,hx⟩)),fun o ⟨hb,hE,_⟩=>Yk.move (vr (.tuple #[St (((b.drop (i+xk)).take xn)),NI (i+xk+xn),NI 0]) rfl) ⟨rfl,Ext.refl _⟩,fun o ⟨hb,hE,_⟩=>Yk.extract (vs:= [St (((b.drop (i+xk)).take xn)),NI (i+xk+xn),NI 0]) (vr (.tuple #[St (((b.drop (i+xk)).take xn)),NI (i+xk+xn),NI 0]) rfl) (show _=some (St (((b.drop (i+xk)).take xn)):Value)from rfl) ⟨rfl,Ext.refl _⟩,fun o ⟨hb,hE,_⟩=>Yk.extract (vs:= [St (((b.drop (i+xk)).take xn)),NI (i+xk+xn),NI 0]) (vr (.tuple #[St (((b.drop (i+xk)).take xn)),NI (i+xk+xn),NI 0]) rfl) (show _=some (NI (i+xk+xn):Value)from rfl) ⟨rfl,Ext.refl _⟩,fun o ⟨hb,hE,_⟩=>Yk.extract (vs:= [St (((b.drop (i+xk)).take xn)),NI (i+xk+xn),NI 0]) (vr (.tuple #[St (((b.drop (i+xk)).take xn)),NI (i+xk+xn),NI 0]) rfl) (show _=some (NI 0:Value)from rfl) ⟨rfl,Ext.refl _⟩,trivial⟩ (AI rfl fun b4 an=> ?_)
 have hb:=eb an hb
 have hgr:w.grownBy b4 (some r):=Ag hgr an.grown (fun _ e=>by cases e)
 have hE:=hE.trans an
 refine AW (Yk.assign (vr (St (((b.drop (i+xk)).take xn))) rfl) ?_)
 refine⟨.inr ⟨hb,hE,trivial⟩,?_⟩
 refine AI rfl fun b5 ao=> ?_
 have hb:=eb ao hb
 have hgr:w.grownBy b5 (some r):=Ag hgr ao.grown (fun _ e=>by cases e)
 have hE:=hE.trans ao
 refine AW (Yk.assign (vr (NI (i+xk+xn)) rfl) ?_)
 refine⟨.inr ⟨hb,hE,trivial⟩,?_⟩
 refine AI rfl fun b6 ap=> ?_
 have hb:=eb ap hb
 have hgr:w.grownBy b6 (some r):=Ag hgr ap.grown (fun _ e=>by cases e)
 have hE:=hE.trans ap
 refine AW (Yk.assign (vr (NI 0) rfl) ?_)
 refine⟨.inl rfl,?_⟩
 refine Cu ?_
 have hr:=(hr.keep hE)
 refine tN (b3 _ _ (sk fun db b7=>(sk fun dc b8=>(wt (oM rfl (oS rfl (Yk.eqI (a:=(0:Nat)) (b:=(0:Nat)) rfl rfl (Ci _ _ _ _) (oM rfl (oY (d:=24) rfl rfl (vr (.bool (false)) (congrArg Value.bool (decide_eq_false (fun h=>h rfl)))) (Yk.move f (oY (d:=24) rfl rfl (vr (.bool (false)) (congrArg Value.bool (decide_eq_false (fun h=>h rfl)))) (Yk.nilCheck (vr (PQ r 0) rfl) (oY (d:=24) rfl rfl (vr (.bool (false)) (congrArg Value.bool (decide_eq_false (fun h=>h rfl)))) (Yk.fieldAt A1 (vr (PQ r 0) rfl) (oY (d:=24) rfl rfl (vr (.bool (false)) (congrArg Value.bool (decide_eq_false (fun h=>h rfl)))) (Yk.cell1 De rfl (vr (PQ r 2) rfl) (Ab hb (show(AK (Ay v b (i) true))[2]? =some (.bool (true):Value)from Cj (Ay v b (i) true))) (oY (d:=24) rfl rfl (vr (.bool (false)) (congrArg Value.bool (decide_eq_false (fun h=>h rfl)))) (Yk.notB (vr (.bool (true)) rfl) (oS rfl (Yk.pickF (vr (.bool (false)) (congrArg Value.bool (decide_eq_false (fun h=>h rfl)))) (vr (.bool (false)) rfl) (oZ (tN (b8 _ _ (Am (vr (.bool (false)) rfl) ?_))))))))))))))))))))))))
 refine Ak (tN (b7 _ _ (sk fun dd b9=>(wt (oM rfl (oM rfl (oS rfl (Yk.nilCheck f (oS rfl (Yk.fieldAt Bj (vr (PQ r 0) rfl) (oS rfl (Yk.storeC (i:=1) (v:=NI (i+xk+xn)) (vr (PQ r 1) rfl) (vr (NI (i+xk+xn)) rfl) hb (by rw[Co];decide) Dm rfl rfl fun a6 a7 a8 de=> ?_))))))))))))
 clear hb
 have hr:=RB.keptE hr a8 hap
 have hgr:w.grownBy a6 (some r):=Ag hgr a8 (fun _ e=> .inl e)
 clear hE
 have hb:a6.heap[r]? =some (.cells (AK ((⟨b,((i+xk+xn:Nat):Int),true⟩,⟨v⟩):Ch)).toArray 115 (0,0)):=Az a7 (HN (Ay v b (i) true) ((i+xk+xn:Nat):Int));clear a7
 have df:=bl hb
 refine oZ (tN (b9 _ _ (sk fun dg ca=>(wt (oM rfl (oA rfl (oZ (tN (ca _ _ (Ao (An (fn:=Tryd.f70) _ rfl [St (((b.drop (i+xk)).take xn))] (St (((b.drop (i+xk)).take xn))) rfl ⟨rfl,trivial⟩ ?_)))))))))))
 exact⟨_,_,_,hP,rfl,hb,by omega,hgr⟩

theorem EU(w:World)(r:Nat)(v:Value)(b:Bs)(i:Nat)(k:Bool)(hb:w.heap[r]? =some (.cells (AK (Ay v b (i) k)).toArray 115 (0,0)))(hr:RB w v b)(hap:b= []∨OB v r)(hi:i≤b.length)(hl:b.length≤6000):
  Calls Tryd.prog 71 #[PQ r 0] w fun e w' =>∃c n q,DC b (i,k)=(c,(n,q))∧e = .returned (AB c.1)∧w'.heap[r]? =some (.cells (AK (Ay v b (n) q)).toArray 115 (0,0))∧n≤b.length∧w.grownBy w' (some r):=by
 have hlr:=(bl hb)
 have hgr:=World.grownBy.refl w (some r)
 refine calls_of_wpF (args:= [PQ r 0]) Tryd.func71 rfl 37 rfl (Nat.le_of_ble_eq_true rfl) ?_
 intro bt hb
 have o:bt 0=(PQ r 0:Value):=hb.get 0
 clear hb
 have hE:=Ext.refl w
 refine sk fun K1 aw=>(wt (oS rfl (Yk.alloc (cs:=(Lib.byteCells (List.replicate 32 0)).toArray) Hh fun s p bu a1 ax cw=> ?_)))
 have cx:=Bo (bl hb) bu
 have hb:=eb ax hb
 have hgr:w.grownBy p (some r):=Ag hgr ax.grown (fun _ e=>by cases e)
 have hE:=hE.trans ax
 have f:=a1;clear a1
 have cy:s<p.heap.size:=by omega
 refine oZ ?_
 cases k
 ·have hP:Dx zid (CZ b i) (i,false)=_:=JC
  refine tN (aw _ _ (sk fun cz bv=> ?_))
  have ad:Ext p (World.drew p):=(Below.refl _ _).drew
  have hb:=eb ad hb
  have hgr:w.grownBy (World.drew p) (some r):=Ag hgr ad.grown (fun _ e=>by cases e)
  have hE:=hE.trans ad
  have f:=eb ad f
  refine BL [(0,7,PQ r 0),(1,8,PQ r 0),(2,9,PQ r 0),(3,10,v),(4,11,PQ r 0),(5,12,PQ r 0),(6,13,PQ r 1),(7,14,NI i),(8,15, .tuple #[AB ((AR b i).1),NI ((AR b i).2.1),NI ((AR b i).2.2)]),(9,6, .tuple #[AB ((AR b i).1),NI ((AR b i).2.1),NI ((AR b i).2.2)]),(10,16,AB ((AR b i).1)),(11,17,NI ((AR b i).2.1)),(12,18,NI ((AR b i).2.2))] [13,14,15,16] (fun wz=>wz.heap[r]? =some (.cells (AK (Ay v b (i) false)).toArray 115 (0,0))∧Ext w wz∧wz.heap[s]? =some (.cells (Lib.byteCells (List.replicate 32 0)).toArray 25 (0,0))∧True) (fun _ _ ⟨hb,hE,f,_⟩ k=>⟨(eb k hb),(hE.trans k),(eb k f),trivial⟩) (by kernel_rfl) (by kernel_rfl) (by kernel_rfl) ⟨hb,hE,f,trivial⟩ ⟨fun j ⟨hb,hE,f,_⟩=>Yk.move o ⟨rfl,Ext.refl _⟩,fun j ⟨hb,hE,f,_⟩=>Yk.nilCheck (vr (PQ r 0) rfl) ⟨rfl,Ext.refl _⟩,fun j ⟨hb,hE,f,_⟩=>Yk.fieldAt BB (vr (PQ r 0) rfl) ⟨rfl,Ext.refl _⟩,fun j ⟨hb,hE,f,_⟩=>Yk.cell1 El rfl (vr (PQ r 0) rfl) (Ab hb (show(AK (Ay v b (i) false))[0]? =some (v:Value)from C2 (Ay v b (i) false))) ⟨rfl,Ext.refl _⟩,fun j ⟨hb,hE,f,_⟩=>Yk.move o ⟨rfl,Ext.refl _⟩,fun j ⟨hb,hE,f,_⟩=>Yk.nilCheck (vr (PQ r 0) rfl) ⟨rfl,Ext.refl _⟩,fun j ⟨hb,hE,f,_⟩=>Yk.fieldAt Bj (vr (PQ r 0) rfl) ⟨rfl,Ext.refl _⟩,fun j ⟨hb,hE,f,_⟩=>Yk.cell1 FI rfl (vr (PQ r 1) rfl) (Ab hb (show(AK (Ay v b (i) false))[1]? =some (NI i:Value)from CW (Ay v b (i) false))) ⟨rfl,Ext.refl _⟩,fun j ⟨hb,hE,f,_⟩=>Yk.callA2 F7 (vr v rfl) (vr (NI i) rfl) ((Fa _ v b (hr.keep hE) i (by omega) (by omega)).mono (by rintro e t ⟨rfl,hx⟩;exact⟨_,rfl,rfl,hx⟩)),fun j ⟨hb,hE,f,_⟩=>Yk.move (vr (.tuple #[AB ((AR b i).1),NI ((AR b i).2.1),NI ((AR b i).2.2)]) rfl) ⟨rfl,Ext.refl _⟩,fun j ⟨hb,hE,f,_⟩=>Yk.extract (vs:= [AB ((AR b i).1),NI ((AR b i).2.1),NI ((AR b i).2.2)]) (vr (.tuple #[AB ((AR b i).1),NI ((AR b i).2.1),NI ((AR b i).2.2)]) rfl) (show _=some (AB ((AR b i).1):Value)from rfl) ⟨rfl,Ext.refl _⟩,fun j ⟨hb,hE,f,_⟩=>Yk.extract (vs:= [AB ((AR b i).1),NI ((AR b i).2.1),NI ((AR b i).2.2)]) (vr (.tuple #[AB ((AR b i).1),NI ((AR b i).2.1),NI ((AR b i).2.2)]) rfl) (show _=some (NI ((AR b i).2.1):Value)from rfl) ⟨rfl,Ext.refl _⟩,fun j ⟨hb,hE,f,_⟩=>Yk.extract (vs:= [AB ((AR b i).1),NI ((AR b i).2.1),NI ((AR b i).2.2)]) (vr (.tuple #[AB ((AR b i).1),NI ((AR b i).2.1),NI ((AR b i).2.2)]) rfl) (show _=some (NI ((AR b i).2.2):Value)from rfl) ⟨rfl,Ext.refl _⟩,trivial⟩ (AI rfl fun bw ae=> ?_)
  have hb:=eb ae hb
  have hgr:w.grownBy bw (some r):=Ag hgr ae.grown (fun _ e=>by cases e)
  have hE:=hE.trans ae
  have f:=eb ae f
  refine AW (Yk.alloc (cs:=(Lib.byteCells (List.replicate 32 0)).toArray) Hh fun a2 a3 a4 a5 af c0=> ?_)
  have bx:=hE.size
  have c1:=Bo (bl hb) a4
  have c2:=Bo (bl f) a4
  have hb:=eb af hb
  have hgr:w.grownBy a3 (some r):=Ag hgr af.grown (fun _ e=>by cases e)
  have hE:=hE.trans af
  have f:=eb af f
  have u:=a5;clear a5
  have c3:a2<a3.heap.size:=by omega
  refine⟨.inr ⟨hb,hE,f,trivial⟩,?_⟩
  refine AI rfl fun bz y=> ?_
  have hb:=eb y hb
  have hgr:w.grownBy bz (some r):=Ag hgr y.grown (fun _ e=>by cases e)
  have hE:=hE.trans y
  have f:=eb y f
  have u:=eb y u
  refine AW (Yk.storeAll (vr (PQ a2 0) rfl) (vr (AB ((AR b i).1)) rfl) u (by exact CL (Ii b i) List.length_replicate) (by exact Aw (Ii b i)) (Av _) fun b0 a6 ag c4=> ?_)
  have hb:=kb ag hb (by omega)
  have hgr:w.grownBy b0 (some r):=Ag hgr ag (fun _ e=> .inr (by cases e;omega))
  have hE:=Ae hE ag (Nat.le_trans bx (by omega))
  have f:=kb ag f (by omega)
  clear u
  have u:=a6;clear a6
  have c5:=bl u
  refine⟨.inr ⟨hb,hE,f,trivial⟩,?_⟩
  refine AI rfl fun b1 ah=> ?_
  have hb:=eb ah hb
  have hgr:w.grownBy b1 (some r):=Ag hgr ah.grown (fun _ e=>by cases e)
  have hE:=hE.trans ah
  have f:=eb ah f
  refine AW (Yk.assign (vr (NI ((AR b i).2.1)) rfl) ?_)
  refine⟨.inr ⟨hb,hE,f,trivial⟩,?_⟩
  refine AI rfl fun b2 ai=> ?_
  have hb:=eb ai hb
  have hgr:w.grownBy b2 (some r):=Ag hgr ai.grown (fun _ e=>by cases e)
  have hE:=hE.trans ai
  have f:=eb ai f
  refine AW (Yk.assign (vr (NI ((AR b i).2.2)) rfl) ?_)
  refine⟨.inl rfl,?_⟩
  refine Cu ?_
  have hr:=(hr.keep hE)
  refine tN (bv _ _ (sk fun c6 c7=>(sk fun c8 b3=>(wt (oM rfl (oS rfl (Yk.eqI (a:=((AR b i).2.2:Nat)) (b:=(0:Nat)) rfl rfl (Ci _ _ _ _) (oM rfl (Ad (PQ r 0) rfl rfl (gF (vr (.bool (decide (((AR b i).2.2:Nat)≠(0)))) rfl)) (fun hG43=>Yk.move o ⟨rfl,rfl⟩) (Ad (PQ r 0) rfl rfl (gF (vr (.bool (decide (((AR b i).2.2:Nat)≠(0)))) rfl)) (fun hG44=>Yk.nilCheck (mayT (vr (cond (!(decide (((AR b i).2.2:Nat)≠(0)))) (PQ r 0) undef) rfl) hG44) ⟨rfl,rfl⟩) (Ad (PQ r 2) rfl rfl (gF (vr (.bool (decide (((AR b i).2.2:Nat)≠(0)))) rfl)) (fun hG45=>Yk.fieldAt A1 (mayT (vr (cond (!(decide (((AR b i).2.2:Nat)≠(0)))) (PQ r 0) undef) rfl) hG45) ⟨rfl,rfl⟩) (Ad (.bool (false)) rfl rfl (gF (vr (.bool (decide (((AR b i).2.2:Nat)≠(0)))) rfl)) (fun hG46=>Yk.cell1 De rfl (mayT (vr (cond (!(decide (((AR b i).2.2:Nat)≠(0)))) (PQ r 2) undef) rfl) hG46) (Ab hb (show(AK (Ay v b (i) false))[2]? =some (.bool (false):Value)from Cj (Ay v b (i) false))) ⟨rfl,rfl⟩) (Ad (.bool (true)) rfl rfl (gF (vr (.bool (decide (((AR b i).2.2:Nat)≠(0)))) rfl)) (fun hG47=>Yk.notB (mayT (vr (cond (!(decide (((AR b i).2.2:Nat)≠(0)))) (.bool (false)) undef) rfl) hG47) ⟨rfl,rfl⟩) (oS rfl (Yk.pickOr (vr (.bool (decide (((AR b i).2.2:Nat)≠(0)))) rfl) (vr (.bool (true)) rfl) (fun hA=>(mayT (vr (cond (!(decide (((AR b i).2.2:Nat)≠(0)))) (.bool (true)) undef) rfl) (not_i hA))) (oZ (tN (b3 _ _ (At (vr (.bool (true)) (congrArg Value.bool (Bool.or_true _))) ?_)))))))))))))))))))
  refine sk fun c9 b4=>(wt (oM rfl (oS rfl (Yk.nilCheck o (oS rfl (Yk.fieldAt A1 (vr (PQ r 0) rfl) (oS rfl (Yk.storeC (i:=2) (v:= .bool (false)) (vr (PQ r 2) rfl) (vr (.bool (false)) rfl) hb (by rw[Co];decide) MO rfl rfl fun a7 a8 ay da=> ?_))))))))
  clear hb
  have hr:=RB.keptE hr ay hap
  have hgr:w.grownBy a7 (some r):=Ag hgr ay (fun _ e=> .inl e)
  clear hE
  have f:=kb ay f (by omega)
  have hb:a7.heap[r]? =some (.cells (AK ((⟨b,((i:Nat):Int),false⟩,⟨v⟩):Ch)).toArray 115 (0,0)):=Az a8 (Dt (Ay v b (i) false) false);clear a8
  have db:=bl hb
  refine oZ (tN (b4 _ _ (sk fun dc b5=>(wt (oS rfl (Yk.run (v:=AB (List.replicate 32 0)) (by kernel_rfl) (oS rfl (Yk.storeAll (vr (PQ s 0) rfl) (vr (AB (List.replicate 32 0)) rfl) f (by exact CL List.length_replicate List.length_replicate) (by exact Aw List.length_replicate) (Av _) fun b6 a9 ba dd=> ?_))))))))
  clear hr
  have hgr:w.grownBy b6 (some r):=Ag hgr ba (fun _ e=> .inr (by cases e;omega))
  clear f
  have hb:=kb ba hb (by omega)
  have f:=a9;clear a9
  have de:=bl f
  refine oZ (tN (b5 _ _ (Ao (Ap (An (fn:=Tryd.f71) _ rfl [AB (List.replicate 32 0)] (AB (List.replicate 32 0)) rfl ⟨ResF.row rfl f NV rfl (by exact Aw List.length_replicate),trivial⟩ ?_)))))
  exact⟨_,_,_,hP,rfl,hb,by omega,hgr⟩
 by_cases hle:i+32≤b.length
 ·have hQ:((b.drop i).take 32).length=32:=by rw[List.length_take,List.length_drop];omega
  have hp:CZ b i=some (⟨(b.drop i).take 32,hQ⟩,i+32):=dif_pos hle
  have hq:AR b i=_:=(if_neg (by omega)).trans (if_neg (by omega))
  have hP:Dx zid (CZ b i) (i,true)=_:=Cm hp
  refine tN (aw _ _ (sk fun df b7=> ?_))
  have aj:Ext p (World.drew p):=(Below.refl _ _).drew
  have hb:=eb aj hb
  have hgr:w.grownBy (World.drew p) (some r):=Ag hgr aj.grown (fun _ e=>by cases e)
  have hE:=hE.trans aj
  have f:=eb aj f
  refine BL [(0,7,PQ r 0),(1,8,PQ r 0),(2,9,PQ r 0),(3,10,v),(4,11,PQ r 0),(5,12,PQ r 0),(6,13,PQ r 1),(7,14,NI i),(8,15, .tuple #[AB ((b.drop i).take 32),NI (i+32),NI 0]),(9,6, .tuple #[AB ((b.drop i).take 32),NI (i+32),NI 0]),(10,16,AB ((b.drop i).take 32)),(11,17,NI (i+32)),(12,18,NI 0)] [13,14,15,16] (fun wz=>wz.heap[r]? =some (.cells (AK (Ay v b (i) true)).toArray 115 (0,0))∧Ext w wz∧wz.heap[s]? =some (.cells (Lib.byteCells (List.replicate 32 0)).toArray 25 (0,0))∧True) (fun _ _ ⟨hb,hE,f,_⟩ k=>⟨(eb k hb),(hE.trans k),(eb k f),trivial⟩) (by kernel_rfl) (by kernel_rfl) (by kernel_rfl) ⟨hb,hE,f,trivial⟩ ⟨fun l ⟨hb,hE,f,_⟩=>Yk.move o ⟨rfl,Ext.refl _⟩,fun l ⟨hb,hE,f,_⟩=>Yk.nilCheck (vr (PQ r 0) rfl) ⟨rfl,Ext.refl _⟩,fun l ⟨hb,hE,f,_⟩=>Yk.fieldAt BB (vr (PQ r 0) rfl) ⟨rfl,Ext.refl _⟩,fun l ⟨hb,hE,f,_⟩=>Yk.cell1 El rfl (vr (PQ r 0) rfl) (Ab hb (show(AK (Ay v b (i) true))[0]? =some (v:Value)from C2 (Ay v b (i) true))) ⟨rfl,Ext.refl _⟩,fun l ⟨hb,hE,f,_⟩=>Yk.move o ⟨rfl,Ext.refl _⟩,fun l ⟨hb,hE,f,_⟩=>Yk.nilCheck (vr (PQ r 0) rfl) ⟨rfl,Ext.refl _⟩,fun l ⟨hb,hE,f,_⟩=>Yk.fieldAt Bj (vr (PQ r 0) rfl) ⟨rfl,Ext.refl _⟩,fun l ⟨hb,hE,f,_⟩=>Yk.cell1 FI rfl (vr (PQ r 1) rfl) (Ab hb (show(AK (Ay v b (i) true))[1]? =some (NI i:Value)from CW (Ay v b (i) true))) ⟨rfl,Ext.refl _⟩,fun l ⟨hb,hE,f,_⟩=>Yk.callA2 F7 (vr v rfl) (vr (NI i) rfl) (((show Calls _ _ _ _ (fun e t=>e = .returned (.tuple #[AB ((b.drop i).take 32),NI (i+32),NI 0])∧Ext _ t)from by have h:=Fa _ v b (hr.keep hE) i (by omega) (by omega);rw[hq]at h;exact h)).mono (by rintro e t ⟨rfl,hx⟩;exact⟨_,rfl,rfl,hx⟩)),fun l ⟨hb,hE,f,_⟩=>Yk.move (vr (.tuple #[AB ((b.drop i).take 32),NI (i+32),NI 0]) rfl) ⟨rfl,Ext.refl _⟩,fun l ⟨hb,hE,f,_⟩=>Yk.extract (vs:= [AB ((b.drop i).take 32),NI (i+32),NI 0]) (vr (.tuple #[AB ((b.drop i).take 32),NI (i+32),NI 0]) rfl) (show _=some (AB ((b.drop i).take 32):Value)from rfl) ⟨rfl,Ext.refl _⟩,fun l ⟨hb,hE,f,_⟩=>Yk.extract (vs:= [AB ((b.drop i).take 32),NI (i+32),NI 0]) (vr (.tuple #[AB ((b.drop i).take 32),NI (i+32),NI 0]) rfl) (show _=some (NI (i+32):Value)from rfl) ⟨rfl,Ext.refl _⟩,fun l ⟨hb,hE,f,_⟩=>Yk.extract (vs:= [AB ((b.drop i).take 32),NI (i+32),NI 0]) (vr (.tuple #[AB ((b.drop i).take 32),NI (i+32),NI 0]) rfl) (show _=some (NI 0:Value)from rfl) ⟨rfl,Ext.refl _⟩,trivial⟩ (AI rfl fun b8 ak=> ?_)
  have hb:=eb ak hb
  have hgr:w.grownBy b8 (some r):=Ag hgr ak.grown (fun _ e=>by cases e)
  have hE:=hE.trans ak
  have f:=eb ak f
  refine AW (Yk.alloc (cs:=(Lib.byteCells (List.replicate 32 0)).toArray) Hh fun az bb bc bd al dg=> ?_)
  have b9:=hE.size
  have dh:=Bo (bl hb) bc
  have di:=Bo (bl f) bc
  have hb:=eb al hb
  have hgr:w.grownBy bb (some r):=Ag hgr al.grown (fun _ e=>by cases e)
  have hE:=hE.trans al
  have f:=eb al f
  have g:=bd;clear bd
  have dj:az<bb.heap.size:=by omega
  refine⟨.inr ⟨hb,hE,f,trivial⟩,?_⟩
  refine AI rfl fun ca z=> ?_
  have hb:=eb z hb
  have hgr:w.grownBy ca (some r):=Ag hgr z.grown (fun _ e=>by cases e)
  have hE:=hE.trans z
  have f:=eb z f
  have g:=eb z g
  refine AW (Yk.storeAll (vr (PQ az 0) rfl) (vr (AB ((b.drop i).take 32)) rfl) g (by exact CL hQ List.length_replicate) (by exact Aw hQ) (Av _) fun cb be am dk=> ?_)
  have hb:=kb am hb (by omega)
  have hgr:w.grownBy cb (some r):=Ag hgr am (fun _ e=> .inr (by cases e;omega))
  have hE:=Ae hE am (Nat.le_trans b9 (by omega))
  have f:=kb am f (by omega)
  clear g
  have g:=be;clear be
  have dl:=bl g
  refine⟨.inr ⟨hb,hE,f,trivial⟩,?_⟩
  refine AI rfl fun cc aa=> ?_
  have hb:=eb aa hb
  have hgr:w.grownBy cc (some r):=Ag hgr aa.grown (fun _ e=>by cases e)
  have hE:=hE.trans aa
  have f:=eb aa f
  have g:=eb aa g
  refine AW (Yk.assign (vr (NI (i+32)) rfl) ?_)
  refine⟨.inr ⟨hb,hE,f,trivial⟩,?_⟩
  refine AI rfl fun cd ab=> ?_
  have hb:=eb ab hb
  have hgr:w.grownBy cd (some r):=Ag hgr ab.grown (fun _ e=>by cases e)
  have hE:=hE.trans ab
  have f:=eb ab f
  have g:=eb ab g
  refine AW (Yk.assign (vr (NI 0) rfl) ?_)
  refine⟨.inl rfl,?_⟩
  refine Cu ?_
  have hr:=(hr.keep hE)
  refine tN (b7 _ _ (sk fun dm ce=>(sk fun dn cf=>(wt (oM rfl (oS rfl (Yk.eqI (a:=(0:Nat)) (b:=(0:Nat)) rfl rfl (Ci _ _ _ _) (oM rfl (oY (d:=21) rfl rfl (vr (.bool (false)) (congrArg Value.bool (decide_eq_false (fun h=>h rfl)))) (Yk.move o (oY (d:=21) rfl rfl (vr (.bool (false)) (congrArg Value.bool (decide_eq_false (fun h=>h rfl)))) (Yk.nilCheck (vr (PQ r 0) rfl) (oY (d:=21) rfl rfl (vr (.bool (false)) (congrArg Value.bool (decide_eq_false (fun h=>h rfl)))) (Yk.fieldAt A1 (vr (PQ r 0) rfl) (oY (d:=21) rfl rfl (vr (.bool (false)) (congrArg Value.bool (decide_eq_false (fun h=>h rfl)))) (Yk.cell1 De rfl (vr (PQ r 2) rfl) (Ab hb (show(AK (Ay v b (i) true))[2]? =some (.bool (true):Value)from Cj (Ay v b (i) true))) (oY (d:=21) rfl rfl (vr (.bool (false)) (congrArg Value.bool (decide_eq_false (fun h=>h rfl)))) (Yk.notB (vr (.bool (true)) rfl) (oS rfl (Yk.pickF (vr (.bool (false)) (congrArg Value.bool (decide_eq_false (fun h=>h rfl)))) (vr (.bool (false)) rfl) (oZ (tN (cf _ _ (Am (vr (.bool (false)) rfl) ?_))))))))))))))))))))))))
  refine Ak (tN (ce _ _ (sk fun dp cg=>(wt (oM rfl (oM rfl (oS rfl (Yk.nilCheck o (oS rfl (Yk.fieldAt Bj (vr (PQ r 0) rfl) (oS rfl (Yk.storeC (i:=1) (v:=NI (i+32)) (vr (PQ r 1) rfl) (vr (NI (i+32)) rfl) hb (by rw[Co];decide) Dm rfl rfl fun bf bg an dq=> ?_))))))))))))
  clear hb
  have hr:=RB.keptE hr an hap
  have hgr:w.grownBy bf (some r):=Ag hgr an (fun _ e=> .inl e)
  clear hE
  have f:=kb an f (by omega)
  have g:=kb an g (by omega)
  have hb:bf.heap[r]? =some (.cells (AK ((⟨b,((i+32:Nat):Int),true⟩,⟨v⟩):Ch)).toArray 115 (0,0)):=Az bg (HN (Ay v b (i) true) ((i+32:Nat):Int));clear bg
  have dr:=bl hb
  refine oZ (tN (cg _ _ (sk fun ds ch=>(wt (oS rfl (Yk.loadAll (vr (PQ az 0) rfl) g NV rfl (by exact Aw hQ) (oS rfl (Yk.storeAll (vr (PQ s 0) rfl) (vr (AB ((b.drop i).take 32)) rfl) f (by exact CL hQ List.length_replicate) (by exact Aw hQ) (Av _) fun ci bh bi dt=> ?_))))))))
  clear hr
  have hgr:w.grownBy ci (some r):=Ag hgr bi (fun _ e=> .inr (by cases e;omega))
  clear f
  have hb:=kb bi hb (by omega)
  have f:=bh;clear bh
  have du:=bl f
  refine oZ (tN (ch _ _ (Ao (An (fn:=Tryd.f71) _ rfl [AB ((b.drop i).take 32)] (AB ((b.drop i).take 32)) rfl ⟨ResF.row rfl f NV rfl (by exact Aw hQ),trivial⟩ ?_))))
  exact⟨_,_,_,hP,rfl,hb,by omega,hgr⟩
 have hp:CZ b i=none:=dif_neg hle
 have hq:AR b i=_:=(if_neg (by omega)).trans (if_pos (by omega))
 have hP:Dx zid (CZ b i) (i,true)=_:=GU hp
 refine tN (aw _ _ (sk fun dv cj=> ?_))
 have ao:Ext p (World.drew p):=(Below.refl _ _).drew
 have hb:=eb ao hb
 have hgr:w.grownBy (World.drew p) (some r):=Ag hgr ao.grown (fun _ e=>by cases e)
 have hE:=hE.trans ao
 have f:=eb ao f
 refine BL [(0,7,PQ r 0),(1,8,PQ r 0),(2,9,PQ r 0),(3,10,v),(4,11,PQ r 0),(5,12,PQ r 0),(6,13,PQ r 1),(7,14,NI i),(8,15, .tuple #[AB (List.replicate 32 0),NI 0,NI 6]),(9,6, .tuple #[AB (List.replicate 32 0),NI 0,NI 6]),(10,16,AB (List.replicate 32 0)),(11,17,NI 0),(12,18,NI 6)] [13,14,15,16] (fun wz=>wz.heap[r]? =some (.cells (AK (Ay v b (i) true)).toArray 115 (0,0))∧Ext w wz∧wz.heap[s]? =some (.cells (Lib.byteCells (List.replicate 32 0)).toArray 25 (0,0))∧True) (fun _ _ ⟨hb,hE,f,_⟩ k=>⟨(eb k hb),(hE.trans k),(eb k f),trivial⟩) (by kernel_rfl) (by kernel_rfl) (by kernel_rfl) ⟨hb,hE,f,trivial⟩ ⟨fun m ⟨hb,hE,f,_⟩=>Yk.move o ⟨rfl,Ext.refl _⟩,fun m ⟨hb,hE,f,_⟩=>Yk.nilCheck (vr (PQ r 0) rfl) ⟨rfl,Ext.refl _⟩,fun m ⟨hb,hE,f,_⟩=>Yk.fieldAt BB (vr (PQ r 0) rfl) ⟨rfl,Ext.refl _⟩,fun m ⟨hb,hE,f,_⟩=>Yk.cell1 El rfl (vr (PQ r 0) rfl) (Ab hb (show(AK (Ay v b (i) true))[0]? =some (v:Value)from C2 (Ay v b (i) true))) ⟨rfl,Ext.refl _⟩,fun m ⟨hb,hE,f,_⟩=>Yk.move o ⟨rfl,Ext.refl _⟩,fun m ⟨hb,hE,f,_⟩=>Yk.nilCheck (vr (PQ r 0) rfl) ⟨rfl,Ext.refl _⟩,fun m ⟨hb,hE,f,_⟩=>Yk.fieldAt Bj (vr (PQ r 0) rfl) ⟨rfl,Ext.refl _⟩,fun m ⟨hb,hE,f,_⟩=>Yk.cell1 FI rfl (vr (PQ r 1) rfl) (Ab hb (show(AK (Ay v b (i) true))[1]? =some (NI i:Value)from CW (Ay v b (i) true))) ⟨rfl,Ext.refl _⟩,fun m ⟨hb,hE,f,_⟩=>Yk.callA2 F7 (vr v rfl) (vr (NI i) rfl) (((show Calls _ _ _ _ (fun e t=>e = .returned (.tuple #[AB (List.replicate 32 0),NI 0,NI 6])∧Ext _ t)from by have h:=Fa _ v b (hr.keep hE) i (by omega) (by omega);rw[hq]at h;exact h)).mono (by rintro e t ⟨rfl,hx⟩;exact⟨_,rfl,rfl,hx⟩)),fun m ⟨hb,hE,f,_⟩=>Yk.move (vr (.tuple #[AB (List.replicate 32 0),NI 0,NI 6]) rfl) ⟨rfl,Ext.refl _⟩,fun m ⟨hb,hE,f,_⟩=>Yk.extract (vs:= [AB (List.replicate 32 0),NI 0,NI 6]) (vr (.tuple #[AB (List.replicate 32 0),NI 0,NI 6]) rfl) (show _=some (AB (List.replicate 32 0):Value)from rfl) ⟨rfl,Ext.refl _⟩,fun m ⟨hb,hE,f,_⟩=>Yk.extract (vs:= [AB (List.replicate 32 0),NI 0,NI 6]) (vr (.tuple #[AB (List.replicate 32 0),NI 0,NI 6]) rfl) (show _=some (NI 0:Value)from rfl) ⟨rfl,Ext.refl _⟩,fun m ⟨hb,hE,f,_⟩=>Yk.extract (vs:= [AB (List.replicate 32 0),NI 0,NI 6]) (vr (.tuple #[AB (List.replicate 32 0),NI 0,NI 6]) rfl) (show _=some (NI 6:Value)from rfl) ⟨rfl,Ext.refl _⟩,trivial⟩ (AI rfl fun ck ap=> ?_)
 have hb:=eb ap hb
 have hgr:w.grownBy ck (some r):=Ag hgr ap.grown (fun _ e=>by cases e)
 have hE:=hE.trans ap
 have f:=eb ap f
 refine AW (Yk.alloc (cs:=(Lib.byteCells (List.replicate 32 0)).toArray) Hh fun bj bk bm bn aq dw=> ?_)
 have cl:=hE.size
 have dx:=Bo (bl hb) bm
 have dy:=Bo (bl f) bm
 have hb:=eb aq hb
 have hgr:w.grownBy bk (some r):=Ag hgr aq.grown (fun _ e=>by cases e)
 have hE:=hE.trans aq
 have f:=eb aq f
 have x:=bn;clear bn
 have dz:bj<bk.heap.size:=by omega
 refine⟨.inr ⟨hb,hE,f,trivial⟩,?_⟩
 refine AI rfl fun cm ac=> ?_
 have hb:=eb ac hb
 have hgr:w.grownBy cm (some r):=Ag hgr ac.grown (fun _ e=>by cases e)
 have hE:=hE.trans ac
 have f:=eb ac f
 have x:=eb ac x
 refine AW (Yk.storeAll (vr (PQ bj 0) rfl) (vr (AB (List.replicate 32 0)) rfl) x (by exact CL List.length_replicate List.length_replicate) (by exact Aw List.length_replicate) (Av _) fun cn bo ar d0=> ?_)
 have hb:=kb ar hb (by omega)
 have hgr:w.grownBy cn (some r):=Ag hgr ar (fun _ e=> .inr (by cases e;omega))
 have hE:=Ae hE ar (Nat.le_trans cl (by omega))
 have f:=kb ar f (by omega)
 clear x
 have x:=bo;clear bo
 have d1:=bl x
 refine⟨.inr ⟨hb,hE,f,trivial⟩,?_⟩
 refine AI rfl fun co au=> ?_
 have hb:=eb au hb
 have hgr:w.grownBy co (some r):=Ag hgr au.grown (fun _ e=>by cases e)
 have hE:=hE.trans au
 have f:=eb au f
 refine AW (Yk.assign (vr (NI 0) rfl) ?_)
 refine⟨.inr ⟨hb,hE,f,trivial⟩,?_⟩
 refine AI rfl fun cp av=> ?_
 have hb:=eb av hb
 have hgr:w.grownBy cp (some r):=Ag hgr av.grown (fun _ e=>by cases e)
 have hE:=hE.trans av
 have f:=eb av f
 refine AW (Yk.assign (vr (NI 6) rfl) ?_)
 refine⟨.inl rfl,?_⟩
 refine Cu ?_
 have hr:=(hr.keep hE)
 refine tN (cj _ _ (sk fun d2 d3=>(sk fun d4 cq=>(wt (oM rfl (oS rfl (Yk.eqI (a:=(6:Nat)) (b:=(0:Nat)) rfl rfl (Ci _ _ _ _) (oM rfl (oN (d:=21) rfl rfl rfl (vr (.bool (true)) (congrArg Value.bool (decide_eq_true (by decide)))) rfl (oN (d:=21) rfl rfl rfl (vr (.bool (true)) (congrArg Value.bool (decide_eq_true (by decide)))) rfl (oN (d:=21) rfl rfl rfl (vr (.bool (true)) (congrArg Value.bool (decide_eq_true (by decide)))) rfl (oN (d:=21) rfl rfl rfl (vr (.bool (true)) (congrArg Value.bool (decide_eq_true (by decide)))) rfl (oN (d:=21) rfl rfl rfl (vr (.bool (true)) (congrArg Value.bool (decide_eq_true (by decide)))) rfl (oS rfl (Yk.pickT (vr (.bool (true)) (congrArg Value.bool (decide_eq_true (by decide)))) (vr (.bool (true)) rfl) (oZ (tN (cq _ _ (At (vr (.bool (true)) rfl) ?_)))))))))))))))))))
 refine sk fun d5 cr=>(wt (oM rfl (oS rfl (Yk.nilCheck o (oS rfl (Yk.fieldAt A1 (vr (PQ r 0) rfl) (oS rfl (Yk.storeC (i:=2) (v:= .bool (false)) (vr (PQ r 2) rfl) (vr (.bool (false)) rfl) hb (by rw[Co];decide) MO rfl rfl fun bp bq a0 d6=> ?_))))))))
 clear hb
 have hr:=RB.keptE hr a0 hap
 have hgr:w.grownBy bp (some r):=Ag hgr a0 (fun _ e=> .inl e)
 clear hE
 have f:=kb a0 f (by omega)
 have hb:bp.heap[r]? =some (.cells (AK ((⟨b,((i:Nat):Int),false⟩,⟨v⟩):Ch)).toArray 115 (0,0)):=Az bq (Dt (Ay v b (i) true) false);clear bq
 have d7:=bl hb
 refine oZ (tN (cr _ _ (sk fun d8 ct=>(wt (oS rfl (Yk.run (v:=AB (List.replicate 32 0)) (by kernel_rfl) (oS rfl (Yk.storeAll (vr (PQ s 0) rfl) (vr (AB (List.replicate 32 0)) rfl) f (by exact CL List.length_replicate List.length_replicate) (by exact Aw List.length_replicate) (Av _) fun cu br bs d9=> ?_))))))))
 clear hr
 have hgr:w.grownBy cu (some r):=Ag hgr bs (fun _ e=> .inr (by cases e;omega))
 clear f
 have hb:=kb bs hb (by omega)
 have f:=br;clear br
 have ea:=bl f
 refine oZ (tN (ct _ _ (Ao (Ap (An (fn:=Tryd.f71) _ rfl [AB (List.replicate 32 0)] (AB (List.replicate 32 0)) rfl ⟨ResF.row rfl f NV rfl (by exact Aw List.length_replicate),trivial⟩ ?_)))))
 exact⟨_,_,_,hP,rfl,hb,by omega,hgr⟩

theorem Kv(w:World)(r:Nat)(v:Value)(b:Bs)(i:Nat)(k:Bool)(hb:w.heap[r]? =some (.cells (AK (Ay v b (i) k)).toArray 115 (0,0)))(hr:RB w v b)(hap:b= []∨OB v r)(hi:i≤b.length)(hl:b.length≤6000):
  Calls Tryd.prog 72 #[PQ r 0] w fun e w' =>∃u ls n q,manyR (C6 b) b 65536 (i,k)=(ls,(n,q))∧e = .returned u∧OG w.heap.size 25 32 Lib.byteCells w' u ls∧w'.heap[r]? =some (.cells (AK (Ay v b (n) q)).toArray 115 (0,0))∧n≤b.length∧w.grownBy w' (some r):=by
 have hlr:=(bl hb)
 have hgr:=World.grownBy.refl w (some r)
 refine calls_of_wpF (args:= [PQ r 0]) Tryd.func72 rfl 36 rfl (Nat.le_of_ble_eq_true rfl) ?_
 intro ah hb
 have f:ah 0=(PQ r 0:Value):=hb.get 0
 clear hb
 refine sk fun K1 ai=>(wt (oA rfl (oZ ?_)))
 refine tN (ai _ _ (sk fun K2 aj=>(wt (oA rfl (oZ ?_)))))
 have hrow0:OG w.heap.size 25 32 (Lib.byteCells) w (Value.slice none 0 0) ([]:List Bs):=OG.nil _ _ _ _ _
 have hapN:Value.ownBlock (Value.slice none 0 0)≠some r:=fun h=>by cases h
 refine tN (aj _ _ (sk fun K3 ak=>(wt (oM rfl (oS rfl (Yk.callA1 Nb f ((DL _ r v b (i) k hb (RB.keptE hr hgr hap) hap hi hl).mono ?_)))))))
 rintro e w5 ⟨c4,i4,k4,hq4,rfl,hbr4,am,x⟩
 refine⟨_,rfl,?_⟩
 clear hb
 have hgr:w.grownBy w5 (some r):=Ag hgr x (fun _ e=> .inl e)
 have hrow0:=OG.kept hrow0 x hapN
 have hb:=hbr4;clear hbr4
 have bb:=bl hb
 refine oA rfl (oZ ?_)
 have hnlt:c4<9223372036854775808:=Ln hq4
 refine tN (ak _ _ (sk fun K7 an=>(wt (oM rfl (oM rfl (oS rfl (Yk.nilCheck f (oS rfl (Yk.fieldAt A1 (vr (PQ r 0) rfl) (oS rfl (Yk.cell1 De rfl (vr (PQ r 2) rfl) (Ab hb (show(AK (Ay v b (i4) k4))[2]? =some (.bool (k4):Value)from Cj (Ay v b (i4) k4))) (oM rfl (Ad (NI c4) rfl rfl (gT (vr (.bool (k4)) rfl)) (fun hG8=>Yk.move (vr (NI c4) rfl) ⟨rfl,rfl⟩) (Ad (.bool (decide ((c4)≤(65536)))) rfl rfl (gT (vr (.bool (k4)) rfl)) (fun hG9=>Yk.eqI (a:=((c4:Nat):Int)) (b:=((65536:Nat):Int)) (mayT (vr (cond (k4) (NI c4) undef) rfl) hG9) (vr (NI 65536) rfl) (CC _ .i64 (c4) (65536)) ⟨rfl,rfl⟩) (oS rfl (Yk.pickAndN (vr (.bool (k4)) rfl) (fun hA=>(mayT (vr (cond (k4) (.bool (decide ((c4)≤(65536)))) undef) rfl) hA)) (vr (.bool (false)) rfl) fun bb10 hbb11=>(oS rfl (Yk.nilCheck f (oS rfl (Yk.fieldAt A1 (vr (PQ r 0) rfl) (oS rfl (Yk.storeC (i:=2) (v:= .bool (bb10)) (vr (PQ r 2) rfl) (vr (.bool (bb10)) rfl) hb (by rw[Co];decide) MO rfl rfl fun y aa ab bd=> ?_))))))))))))))))))))))
 have hgr:w.grownBy y (some r):=Ag hgr ab (fun _ e=> .inl e)
 have hrow0:=OG.kept hrow0 ab hapN
 clear hb
 have hb:y.heap[r]? =some (.cells (AK ((⟨b,((i4:Nat):Int),bb10⟩,⟨v⟩):Ch)).toArray 115 (0,0)):=Az aa (Dt (Ay v b (i4) k4) bb10);clear aa
 have be:=bl hb
 refine oZ ?_
 subst hbb11
 refine tN (an _ _ (sk fun bf ac=>(sk fun bg ao=>(wt (oA rfl (Bp [(0,PQ r 0),(2,(Value.slice none 0 0)),(3,(Value.slice none 0 0)),(4,NI c4),(5,NI 0)] ⟨f,rfl,rfl,rfl,rfl,trivial⟩ fun bh ⟨f,o,l,m,g,_⟩=>(tN (ao _ _ (AA (Bu (fun(ρ:As) (wz:World)=>∃j:Nat,∃ls:List Bs,∃i1:Nat,∃k1:Bool,∃va:Value,ρ 0=(PQ r 0:Value)∧ρ 2=((Value.slice none 0 0):Value)∧ρ 4=(NI c4:Value)∧ρ 5=(NI j:Value)∧ρ 3=(va:Value)∧w.grownBy wz (some r)∧wz.heap[r]? =some (.cells (AK (Ay v b (i1) k1)).toArray 115 (0,0))∧OG w.heap.size 25 32 (Lib.byteCells) wz va (ls)∧(itR (C6 b) j ([],(i4,(k4&&decide (c4≤65536))))=(ls,(i1,k1)))∧(i1≤b.length)∧(ls.length=j)∧(j=0∨c4≤65536)∧(j≤c4)∧(OB va r)∧True) (fun ρ _=>c4-(intOf (ρ 5)).toNat) ⟨0,[],i4,(k4&&decide (c4≤65536)),(Value.slice none 0 0),f,o,m,g,l,hgr,hb,L1 hrow0 (rfl),rfl,am,rfl, .inl rfl,Nat.zero_le _,hapN,trivial⟩ ?_))))))))))
 clear hrow0
 clear hb
 clear hgr
 rintro ap aq ⟨j,ls,i1,k1,va,f,o,m,g,l,hgr,c,hr_va,hit,hi1,hls,ar,hjn,hap_va_r,-⟩
 have q5:=g
 have hlr1:r<aq.heap.size:=(bl c)
 by_cases hlt:j<c4
 ·cases k1
  ·refine sk fun bi bj=>(sk fun bk au=>(wt (oM rfl (oM rfl (oS rfl (Yk.eqI (a:=(j:Nat)) (b:=(c4:Nat)) g m (A0 _ _ _ _) (oM rfl (oY (d:=22) rfl rfl (vr (.bool (true)) (congrArg Value.bool (decide_eq_true (hlt)))) (Yk.move f (oY (d:=22) rfl rfl (vr (.bool (true)) (congrArg Value.bool (decide_eq_true (hlt)))) (Yk.nilCheck (vr (PQ r 0) rfl) (oY (d:=22) rfl rfl (vr (.bool (true)) (congrArg Value.bool (decide_eq_true (hlt)))) (Yk.fieldAt A1 (vr (PQ r 0) rfl) (oY (d:=22) rfl rfl (vr (.bool (true)) (congrArg Value.bool (decide_eq_true (hlt)))) (Yk.cell1 De rfl (vr (PQ r 2) rfl) (Ab c (show(AK (Ay v b (i1) false))[2]? =some (.bool (false):Value)from Cj (Ay v b (i1) false))) (oS rfl (Yk.pickT (vr (.bool (true)) (congrArg Value.bool (decide_eq_true (hlt)))) (vr (.bool (false)) rfl) (oZ (tN (au _ _ (Am (vr (.bool (false)) rfl) (Bm (Ax (Ax (AS ?_)))))))))))))))))))))))))
   refine tN (ac _ _ (sk fun bm av=>(wt (oM rfl (oA rfl (oZ (tN (av _ _ (Ao (An (fn:=Tryd.f72) _ rfl [va] (va) rfl ⟨l,trivial⟩ ?_))))))))))
   have hM:manyR (C6 b) b 65536 (i,k)=(ls,(i1,false)):=F6 hq4 (Ht hit _ (by omega))
   exact⟨_,_,_,_,hM,rfl,hr_va,c,hi1,hgr⟩
  have aw:c4≤65536:=ar.elim (fun e=>by subst e;have h:([],(i4,(k4&&decide (c4≤65536))))=(ls,(i1,true)):=hit;have h:=congrArg (fun z=>z.2.2) h;simp only[Bool.and_eq_true,decide_eq_true_eq]at h;exact h.2) id
  have hlsl:ls.length=j:=hls
  refine sk fun bn ax=>(sk fun bo ay=>(wt (oM rfl (oM rfl (oS rfl (Yk.eqI (a:=(j:Nat)) (b:=(c4:Nat)) g m (A0 _ _ _ _) (oM rfl (oY (d:=22) rfl rfl (vr (.bool (true)) (congrArg Value.bool (decide_eq_true (hlt)))) (Yk.move f (oY (d:=22) rfl rfl (vr (.bool (true)) (congrArg Value.bool (decide_eq_true (hlt)))) (Yk.nilCheck (vr (PQ r 0) rfl) (oY (d:=22) rfl rfl (vr (.bool (true)) (congrArg Value.bool (decide_eq_true (hlt)))) (Yk.fieldAt A1 (vr (PQ r 0) rfl) (oY (d:=22) rfl rfl (vr (.bool (true)) (congrArg Value.bool (decide_eq_true (hlt)))) (Yk.cell1 De rfl (vr (PQ r 2) rfl) (Ab c (show(AK (Ay v b (i1) true))[2]? =some (.bool (true):Value)from Cj (Ay v b (i1) true))) (oS rfl (Yk.pickT (vr (.bool (true)) (congrArg Value.bool (decide_eq_true (hlt)))) (vr (.bool (true)) rfl) (oZ (tN (ay _ _ (At (vr (.bool (true)) rfl) (Ak ?_))))))))))))))))))))))
  refine tN (ax _ _ (sk fun bp az=>(AA (wt (oM rfl (oM rfl (oS rfl (Yk.callA1 Nc f ((EU _ r v b (i1) true c (RB.keptE hr hgr hap) hap hi1 hl).mono ?_)))))))))
  rintro e a0 ⟨c28,i28,k28,hq28,rfl,hbr28,a1,ad⟩
  refine⟨_,rfl,?_⟩
  have hgr:w.grownBy a0 (some r):=Ag hgr ad (fun _ e=> .inl e)
  clear c
  have hr_va:=OG.kept hr_va ad hap_va_r
  have c:=hbr28;clear hbr28
  have bq:=bl c
  refine oS rfl (Yk.lit1G (a:=(c28.1)) (enc:=Lib.byteCells) (vr (AB c28.1) rfl) (by rw[Lib.byteCells_length];exact c28.2) Nd fun a2 ae af t=> ?_)
  have hgr:w.grownBy ae (some r):=Ag hgr t.grown (fun _ e=>by cases e)
  have hr_va:=hr_va.keep t
  have c:=eb t c
  refine oS rfl (Yk.appendRG _ _ w.heap.size _ 32 Bw wr9_ig25.choose_spec.1 wr9_ig25.choose_spec.2 Bw (ls) ([(c28.1)]) (OG.of hr_va l) (RG.of af (vr a2 rfl)) (fun _ _=>Av _) (by simp only[List.length_cons,List.length_nil];omega) (by simp only[List.length_cons,List.length_nil];omega) hgr.size fun s ag a3 p=> ?_)
  have p:Grew ae ag va s:= .eqv l p
  have a4:OB s r:=AP p hap_va_r (bl c)
  have hgr:w.grownBy ag (some r):=Ag hgr p.by_ (fun _ e=> .inr (hr_va.2.lt _ e).1)
  clear hr_va
  have c:=AG c p hap_va_r
  clear af
  refine oA rfl (oZ (bN (tN (az _ _ (wt (oM rfl (oS rfl (Yk.bin (xv:=NI j) (yv:=NI 1) g rfl rfl (Be _ _ _ (by omega)) (oA rfl (Bp [(0,PQ r 0),(2,(Value.slice none 0 0)),(3,s),(4,NI c4),(5,NI ((j)+(1))),(27, .bool (true))] ⟨f,o,rfl,m,rfl,rfl,trivial⟩ fun a5 ⟨f,o,l,m,g,br,_⟩=>(tN (And.intro ⟨j+1,ls++ [c28.1],i28,k28,s,f,o,m,g,l,hgr,c,L1 a3 (rfl),(Hs hit).trans (by unfold C6;simp only[hq28]),a1,by rw[List.length_append,hls];rfl, .inr aw,by omega,a4,trivial⟩ ?_))))))))))))
  show c4-(intOf (a5 5)).toNat<c4-(intOf (ap 5)).toNat
  rw[g,q5]
  simp only[intOf,Int.toNat_natCast];omega
 refine sk fun bs bt=>(sk fun bu a6=>(wt (oM rfl (oM rfl (oS rfl (Yk.eqI (a:=(j:Nat)) (b:=(c4:Nat)) g m (A0 _ _ _ _) (oM rfl (oN (d:=22) rfl rfl rfl (vr (.bool (false)) (congrArg Value.bool (decide_eq_false (hlt)))) rfl (oN (d:=22) rfl rfl rfl (vr (.bool (false)) (congrArg Value.bool (decide_eq_false (hlt)))) rfl (oN (d:=22) rfl rfl rfl (vr (.bool (false)) (congrArg Value.bool (decide_eq_false (hlt)))) rfl (oN (d:=22) rfl rfl rfl (vr (.bool (false)) (congrArg Value.bool (decide_eq_false (hlt)))) rfl (oS rfl (Yk.pickF (vr (.bool (false)) (congrArg Value.bool (decide_eq_false (hlt)))) (vr (.bool (false)) rfl) (oZ (tN (a6 _ _ (Am (vr (.bool (false)) rfl) (Bm (Ax (Ax (AS ?_)))))))))))))))))))))
 refine tN (ac _ _ (sk fun bv a7=>(wt (oM rfl (oA rfl (oZ (tN (a7 _ _ (Ao (An (fn:=Tryd.f72) _ rfl [va] (va) rfl ⟨l,trivial⟩ ?_))))))))))
 have hM:manyR (C6 b) b 65536 (i,k)=(ls,(i1,k1)):=F6 hq4 (by rw[←hit];congr 1;omega)
 exact⟨_,_,_,_,hM,rfl,hr_va,c,hi1,hgr⟩
end Go.Proofs.YtmonlobfofkbdaaDoor
