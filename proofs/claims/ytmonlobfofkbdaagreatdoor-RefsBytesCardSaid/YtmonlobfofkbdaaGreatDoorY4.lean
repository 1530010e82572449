/- Part 4 of what stands behind these statements: laws and walks of the functions that are reached. Conditions: those that each theorem names. -/
import Derived.Test.YtmonlobfofkbdaaGreatDoorY3
set_option linter.unusedVariables false
set_option linter.unusedSimpArgs false
namespace Go.Proofs.YtmonlobfofkbdaaGreatDoor
open Go.RowKit
abbrev EW:Bs:= [109,97,105,110]
abbrev id1:BS:=⟨1 :: List.replicate 31 0,rfl⟩
abbrev u1:Ba:=⟨1,EW,zid,id1⟩
abbrev u2:Ba:=⟨1,EW,id1,zid⟩
abbrev firstB:Bs:= [102,105,114,115,116]
abbrev Lr:Bs:= [97,103,97,105,110]
abbrev r1:A0:=⟨[⟨EW,id1⟩],[],EW,zid,[entOf u1 firstB]⟩
theorem JS:Ap EW=true:=by decide
theorem Oh{l:Bs}{a:Nat}(h:∀x∈l,x.toNat<128)(ha:a<l.length):CU l a=some (a+1):=by
  have hx:(l.getD a 0).toNat<128:=h _ (CB 0 ha)
  have hl:B0 (l.getD a 0)=some (0,(l.getD a 0).toNat,0):=by unfold B0;rw[if_pos hx]
  unfold CU
  rw[hl]
  simp only[C0]
  rw[if_neg (by omega),if_pos ⟨Nat.zero_le _,by unfold Dh;simp only[Nat.zero_le,decide_true,Bool.true_and,Bool.and_eq_true,Bool.or_eq_true,decide_eq_true_eq];omega⟩]
theorem JT{l:Bs}(h:∀x∈l,x.toNat<128):∀(n a:Nat),l.length≤a+n→CI l a=true
  | 0,a,hn=>Gc (by omega)
  | n+1,a,hn=>by
    by_cases ha:a<l.length
    · rw[GT ha (Oh h ha)];exact JT h n _ (by omega)
    · exact Gc ha
theorem Gn{l:Bs}(h:∀x∈l,x.toNat<128)(hl:l.length≤256):BL l=true:=by unfold BL;rw[decide_eq_true hl,JT h l.length 0 (by omega)];rfl
theorem IM:BL firstB=true:=Gn (by decide) (by decide)
theorem M2:BL Lr=true:=Gn (by decide) (by decide)
theorem PG:BL []=true:=Gn (by decide) (by decide)
theorem Ls:A6 []=true:=by rw[ES (i:=0) (Nat.le_refl _) (fun j hj=>absurd hj (Nat.not_lt_zero _))];rfl
theorem PH:A6 [⟨EW,id1⟩]=true:=by
  rw[ES (i:=1) (Nat.le_refl _) (fun j hj=>by cases j with
    | zero=>rfl
    | succ j=>omega)];rfl
theorem Q7:AO Dx.1=true:=Eg (i:=0) (by unfold F2;rw[Ls];rfl) (by unfold Fv;rw[show Dx.1.head=EW from rfl,JS];rfl) (Nat.le_refl _) (fun j hj=>absurd hj (Nat.not_lt_zero _))
theorem Lt:AO r1=true:=Eg (i:=1) (by unfold F2;rw[Ls,PH];rfl) (by unfold Fv;rw[JS];rfl) (Nat.le_refl _) (fun j hj=>by
  cases j with
  | zero=>show DU [entOf u1 firstB] 0=false;unfold DU;rw[show(([entOf u1 firstB]:List AM).getD 0 Ad).note=firstB from rfl,IM];rfl
  | succ j=>omega)
theorem Mp:BI u1=0:=by decide
theorem Qz:BI u2=0:=by decide
theorem RI:Cd Dx.1 u1=(0,⟨[⟨EW,id1⟩],[],EW,zid,[]⟩):=rfl
theorem RJ:(Cd r1 u1).1=15:=by decide
theorem RK:(Cd r1 u2).1=16:=by decide
theorem QA:Db Dx.1 [u1] firstB=(0,r1):=by
  have h:=JN (note:=firstB) (r:=Dx.1) (l:= [u1]) (i:=0) (by decide) Mp (by show(Cd Dx.1 u1).1=0;rw[RI])
  rw[List.drop_zero]at h
  rw[JO (by rw[Q7,IM];rfl) (h.trans (Lq (by decide)))]
  show(0,Lp (Fk (Cd Dx.1 u1).2 (entOf u1 firstB)))=_
  rw[RI]
  rfl
theorem Q8:Dc r1=(id1,0):=by
  unfold Dc
  rw[if_pos Lt]
  rfl
theorem QB:Db r1 [u1] Lr=(15,zeroR):=by
  have h:=G6 (note:=Lr) (r:=r1) (l:= [u1]) (i:=0) (by decide) Mp (by show(Cd r1 u1).1≠0;rw[RJ];decide)
  rw[List.drop_zero,show(Cd r1 ([u1].getD 0 A8)).1=15 from RJ]at h
  exact EV (by rw[Lt,M2];rfl) h (by decide)
theorem QC:Db r1 [u2] []=(16,zeroR):=by
  have h:=G6 (note:= []) (r:=r1) (l:= [u2]) (i:=0) (by decide) Qz (by show(Cd r1 u2).1≠0;rw[RK];decide)
  rw[List.drop_zero,show(Cd r1 ([u2].getD 0 A8)).1=16 from RK]at h
  exact EV (by rw[Lt,PG];rfl) h (by decide)
open Go.RowKit
def bytesR(n:Nat):List UInt8:=
  if n<128 then [UInt8.ofNat n]
  else if n<2048 then [UInt8.ofNat (192+n/64),UInt8.ofNat (128+n%64)]
  else if n<65536 then [UInt8.ofNat (224+n/4096),UInt8.ofNat (128+n/64%64),UInt8.ofNat (128+n%64)]
  else [UInt8.ofNat (240+n/262144),UInt8.ofNat (128+n/4096%64),UInt8.ofNat (128+n/64%64),UInt8.ofNat (128+n%64)]
def vN(l:List UInt8)(a n:Nat):Int:=
  if n=1 then((l.getD a 0).toNat:Int)else if n=2 then(((l.getD a 0).toNat:Int)-192)*64+((l.getD (a+1) 0).toNat:Int)-128
  else if n=3 then(((l.getD a 0).toNat:Int)-224)*4096+(((l.getD (a+1) 0).toNat:Int)-128)*64+((l.getD (a+2) 0).toNat:Int)-128
  else(((l.getD a 0).toNat:Int)-240)*262144+(((l.getD (a+1) 0).toNat:Int)-128)*4096+(((l.getD (a+2) 0).toNat:Int)-128)*64+((l.getD (a+3) 0).toNat:Int)-128
def EL(l:List UInt8)(a n:Nat):Prop:=0≤vN l a n∧vN l a n≤1114111∧Dh (vN l a n).toNat=true∧bytesR (vN l a n).toNat=(l.drop a).take n
theorem PI{c:Nat}(h:c<256):c&&&192=128↔(128≤c∧c<192):=by
  have:∀c:Fin 256,c.val&&&192=128↔(128≤c.val∧c.val<192):=by decide+kernel
  exact this ⟨c,h⟩
theorem Oi(c:Nat):c&&&63=c%64:=Nat.and_two_pow_sub_one_eq_mod c 6
theorem Oj(c:Nat):c&&&31=c%32:=Nat.and_two_pow_sub_one_eq_mod c 5
theorem Ok(c:Nat):c&&&15=c%16:=Nat.and_two_pow_sub_one_eq_mod c 4
theorem PJ(c:Nat):c&&&7=c%8:=Nat.and_two_pow_sub_one_eq_mod c 3
theorem Q9(q c:Nat):q*2^6|||(c%64)=q*64+c%64:=by
  have:=Nat.two_pow_add_eq_or_of_lt (i:=6) (b:=c%64) (Nat.mod_lt _ (by decide)) q
  rw[Nat.mul_comm q,←this]
theorem C4{x:UInt8}{n:Nat}(h:n<256):UInt8.ofNat n=x↔x.toNat=n:=by
  constructor
  · rintro rfl;simp;omega
  · intro e;rw[←e];simp
theorem take_1{l:List UInt8}{a:Nat}(h:a<l.length):(l.drop a).take 1= [l.getD a 0]:=by
  rw[List.drop_eq_getElem_cons h,List.getD_eq_getElem?_getD,List.getElem?_eq_getElem h];rfl
theorem D6{l:List UInt8}{a n:Nat}(h:a<l.length):(l.drop a).take (n+1)=l.getD a 0 :: (l.drop (a+1)).take n:=by
  rw[List.drop_eq_getElem_cons h,List.getD_eq_getElem?_getD,List.getElem?_eq_getElem h];rfl
def G9(l:List UInt8)(a n:Nat):Prop:=∃r m q,B0 (l.getD a 0)=some (n-1,r,m)∧C0 l (a+1) (n-1) r=some q∧m≤q∧Dh q=true
theorem Lu{l:List UInt8}{a b:Nat}(ha:a<l.length):CU l a=some b↔∃n,1≤n∧a+n=b∧b≤l.length∧G9 l a n:=by
  unfold CU
  cases hL:B0 (l.getD a 0)with
  | none=>simp only[reduceCtorEq,false_iff];rintro⟨n,-,-,-,r,m,q,h,-⟩;rw[hL]at h;cases h
  | some p=>
    obtain⟨k,r,m⟩:=p
    simp only
    by_cases hs:l.length-a≤k
    · rw[if_pos hs];simp only[reduceCtorEq,false_iff]
      rintro⟨n,h1,h2,h3,r',m',q',h,-⟩
      rw[hL]at h;cases h;omega
    · rw[if_neg hs]
      cases ht:C0 l (a+1) k r with
      | none=>simp only[reduceCtorEq,false_iff];rintro⟨n,-,-,-,r',m',q',h,h',-⟩;rw[hL]at h;cases h;rw[ht]at h';cases h'
      | some q=>
        simp only
        constructor
        · intro h
          split at h
          · rename_i hq;cases h;exact⟨k+1,by omega,by omega,by omega,r,m,q,hL,ht,hq.1,hq.2⟩
          · cases h
        · rintro⟨n,h1,h2,h3,r',m',q',h,h',h4,h5⟩
          rw[hL]at h;cases h;rw[ht]at h';cases h'
          rw[if_pos ⟨h4,h5⟩];congr 1;omega
theorem RZ{l:List UInt8}{a:Nat}(h:a<l.length):EL l a 1↔G9 l a 1:=by
  have hb:=(l.getD a 0).toNat_lt
  unfold EL G9
  rw[take_1 h,show vN l a 1=((l.getD a 0).toNat:Int)from rfl]
  simp only[Int.toNat_natCast]
  constructor
  · rintro⟨-,-,h3,h4⟩
    have hc:(l.getD a 0).toNat<128:=by
      unfold bytesR at h4
      split at h4
      · assumption
      · split at h4
        · exact absurd (congrArg List.length h4) (by simp)
        · split at h4 <;> exact absurd (congrArg List.length h4) (by simp)
    exact⟨(l.getD a 0).toNat,0,(l.getD a 0).toNat,by unfold B0;rw[if_pos hc],rfl,Nat.zero_le _,h3⟩
  · rintro⟨r,m,q,h1,h2,h3,h4⟩
    unfold B0 at h1
    by_cases hc:(l.getD a 0).toNat<128
    · rw[if_pos hc]at h1;cases h1;cases h2
      refine⟨by omega,by omega,h4,?_⟩
      unfold bytesR;rw[if_pos hc,(C4 (by omega)).2 rfl]
    · rw[if_neg hc]at h1
      split at h1
      · cases h1
      · split at h1
        · cases h1
        · split at h1 <;> cases h1
theorem Ol{c:UInt8}{r m:Nat}:B0 c=some (1,r,m)↔(192≤c.toNat∧c.toNat<224)∧r=c.toNat%32∧m=128:=by
  unfold B0
  rw[Oj]
  repeat' split
  all_goals simp only[Option.some.injEq,Prod.mk.injEq,reduceCtorEq,false_and,true_and]
  all_goals (constructor <;> intro h <;> first | omega | exact h.elim)
theorem lead_3{c:UInt8}{r m:Nat}:B0 c=some (2,r,m)↔(224≤c.toNat∧c.toNat<240)∧r=c.toNat%16∧m=2048:=by
  unfold B0
  rw[Ok]
  repeat' split
  all_goals simp only[Option.some.injEq,Prod.mk.injEq,reduceCtorEq,false_and,true_and]
  all_goals (constructor <;> intro h <;> first | omega | exact h.elim)
theorem lead_4{c:UInt8}{r m:Nat}:B0 c=some (3,r,m)↔(240≤c.toNat∧c.toNat<248)∧r=c.toNat%8∧m=65536:=by
  unfold B0
  rw[PJ]
  repeat' split
  all_goals simp only[Option.some.injEq,Prod.mk.injEq,reduceCtorEq,false_and,true_and]
  all_goals (constructor <;> intro h <;> first | omega | exact h.elim)
theorem tail_iff{l:List UInt8}{p k r q:Nat}:C0 l p (k+1) r=some q↔(128≤(l.getD p 0).toNat∧(l.getD p 0).toNat<192)∧C0 l (p+1) k (r*64+(l.getD p 0).toNat%64)=some q:=by
  have hc:=PI (l.getD p 0).toNat_lt
  rw[C0,Oi,Q9]
  split
  · rename_i h;constructor
    · intro h';cases h'
    · rintro⟨h',-⟩;exact absurd (hc.2 h') h
  · rename_i h;have h:=hc.1 (Decidable.of_not_not h);exact⟨fun h' =>⟨h,h'⟩,fun h' =>h'.2⟩
theorem F3{l:List UInt8}{p r q:Nat}:C0 l p 0 r=some q↔r=q:=by rw[C0];exact⟨fun h=>Option.some.inj h,fun h=>congrArg some h⟩
theorem Mq{n:Nat}{x y:UInt8}(hn:n≤1114111):bytesR n= [x,y]↔(128≤n∧n<2048)∧x.toNat=192+n/64∧y.toNat=128+n%64:=by
  unfold bytesR
  by_cases h1:n<128
  · rw[if_pos h1];exact⟨fun h=>absurd (congrArg List.length h) (by simp),fun h=>by omega⟩
  · rw[if_neg h1]
    by_cases h2:n<2048
    · rw[if_pos h2,List.cons.injEq,List.cons.injEq,C4 (by omega),C4 (by omega)]
      exact⟨fun h=>⟨by omega,h.1,h.2.1⟩,fun h=>⟨h.2.1,h.2.2,rfl⟩⟩
    · rw[if_neg h2]
      constructor
      · intro h
        split at h <;> exact absurd (congrArg List.length h) (by simp)
      · intro h;omega
theorem bytes_3{n:Nat}{x y z:UInt8}(hn:n≤1114111):bytesR n= [x,y,z]↔(2048≤n∧n<65536)∧x.toNat=224+n/4096∧y.toNat=128+n/64%64∧z.toNat=128+n%64:=by
  unfold bytesR
  by_cases h1:n<128
  · rw[if_pos h1];exact⟨fun h=>absurd (congrArg List.length h) (by simp),fun h=>by omega⟩
  · rw[if_neg h1]
    by_cases h2:n<2048
    · rw[if_pos h2];exact⟨fun h=>absurd (congrArg List.length h) (by simp),fun h=>by omega⟩
    · rw[if_neg h2]
      by_cases h3:n<65536
      · rw[if_pos h3,List.cons.injEq,List.cons.injEq,List.cons.injEq,C4 (by omega),C4 (by omega),C4 (by omega)]
        exact⟨fun h=>⟨by omega,h.1,h.2.1,h.2.2.1⟩,fun h=>⟨h.2.1,h.2.2.1,h.2.2.2,rfl⟩⟩
      · rw[if_neg h3];exact⟨fun h=>absurd (congrArg List.length h) (by simp),fun h=>by omega⟩
theorem Mr{n:Nat}{x y z u:UInt8}(hn:n≤1114111):bytesR n= [x,y,z,u]↔65536≤n∧x.toNat=240+n/262144∧y.toNat=128+n/4096%64∧z.toNat=128+n/64%64∧u.toNat=128+n%64:=by
  unfold bytesR
  by_cases h1:n<128
  · rw[if_pos h1];exact⟨fun h=>absurd (congrArg List.length h) (by simp),fun h=>by omega⟩
  · rw[if_neg h1]
    by_cases h2:n<2048
    · rw[if_pos h2];exact⟨fun h=>absurd (congrArg List.length h) (by simp),fun h=>by omega⟩
    · rw[if_neg h2]
      by_cases h3:n<65536
      · rw[if_pos h3];exact⟨fun h=>absurd (congrArg List.length h) (by simp),fun h=>by omega⟩
      · rw[if_neg h3,List.cons.injEq,List.cons.injEq,List.cons.injEq,List.cons.injEq,C4 (by omega),C4 (by omega),C4 (by omega),C4 (by omega)]
        exact⟨fun h=>⟨by omega,h.1,h.2.1,h.2.2.1,h.2.2.2.1⟩,fun h=>⟨h.2.1,h.2.2.1,h.2.2.2.1,h.2.2.2.2,rfl⟩⟩
theorem R2{l:List UInt8}{a:Nat}(h:a+1<l.length):EL l a 2↔G9 l a 2:=by
  have hv:vN l a 2=((l.getD a 0).toNat-192:Int)*64+((l.getD (a+1) 0).toNat:Int)-128:=rfl
  unfold EL G9
  rw[D6 (by omega),take_1 h,hv]
  generalize hx:l.getD a 0=x
  generalize hy:l.getD (a+1) 0=y
  have:=x.toNat_lt;have:=y.toNat_lt
  constructor
  · rintro⟨h1,h2,h3,h4⟩
    obtain⟨n,hn⟩:=Int.eq_ofNat_of_zero_le h1
    rw[hn,Int.toNat_natCast]at h3 h4
    rw[Mq (by omega)]at h4
    refine⟨x.toNat%32,128,n,Ol.2 ⟨by omega,rfl,rfl⟩,tail_iff.2 ⟨by rw[hy];omega,F3.2 (by rw[hy];omega)⟩,by omega,h3⟩
  · rintro⟨r,m,q,h1,h2,h3,h4⟩
    obtain⟨h5,rfl,rfl⟩:=Ol.1 h1
    obtain⟨h6,h7⟩:=tail_iff.1 h2
    have h7:=F3.1 h7
    rw[hy]at h6 h7
    have hn:((x.toNat:Int)-192)*64+(y.toNat:Int)-128=(q:Int):=by omega
    rw[hn,Int.toNat_natCast]
    exact⟨by omega,by omega,h4,(Mq (by omega)).2 ⟨by omega,by omega,by omega⟩⟩
theorem Ra{q:Nat}(h:Dh q=true):q≤1114111:=by unfold Dh at h;simp only[Bool.and_eq_true,decide_eq_true_eq]at h;exact h.1.2
theorem R3{l:List UInt8}{a:Nat}(h:a+2<l.length):EL l a 3↔G9 l a 3:=by
  have hv:vN l a 3=((l.getD a 0).toNat-224:Int)*4096+((l.getD (a+1) 0).toNat-128:Int)*64+((l.getD (a+2) 0).toNat:Int)-128:=rfl
  unfold EL G9
  rw[D6 (by omega),D6 (by omega),take_1 h,hv]
  generalize hx:l.getD a 0=x
  generalize hy:l.getD (a+1) 0=y
  generalize hz:l.getD (a+1+1) 0=z
  have:=x.toNat_lt;have:=y.toNat_lt;have:=z.toNat_lt
  constructor
  · rintro⟨h1,h2,h3,h4⟩
    obtain⟨n,hn⟩:=Int.eq_ofNat_of_zero_le h1
    rw[hn,Int.toNat_natCast]at h3 h4
    rw[bytes_3 (by omega)]at h4
    refine⟨x.toNat%16,2048,n,lead_3.2 ⟨by omega,rfl,rfl⟩,tail_iff.2 ⟨by rw[hy];omega,tail_iff.2 ⟨by rw[hz];omega,F3.2 (by rw[hy,hz];omega)⟩⟩,by omega,h3⟩
  · rintro⟨r,m,q,h1,h2,h3,h4⟩
    obtain⟨h5,rfl,rfl⟩:=lead_3.1 h1
    obtain⟨h6,h7⟩:=tail_iff.1 h2
    obtain⟨h7,h8⟩:=tail_iff.1 h7
    have h8:=F3.1 h8
    rw[hy]at h6 h8
    rw[hz]at h7 h8
    have hn:((x.toNat:Int)-224)*4096+((y.toNat:Int)-128)*64+(z.toNat:Int)-128=(q:Int):=by omega
    rw[hn,Int.toNat_natCast]
    exact⟨by omega,by omega,h4,(bytes_3 (by omega)).2 ⟨by omega,by omega,by omega,by omega⟩⟩
theorem R4{l:List UInt8}{a:Nat}(h:a+3<l.length):EL l a 4↔G9 l a 4:=by
  have hv:vN l a 4=((l.getD a 0).toNat-240:Int)*262144+((l.getD (a+1) 0).toNat-128:Int)*4096+((l.getD (a+2) 0).toNat-128:Int)*64+((l.getD (a+3) 0).toNat:Int)-128:=rfl
  unfold EL G9
  rw[D6 (by omega),D6 (by omega),D6 (by omega),take_1 h,hv]
  generalize hx:l.getD a 0=x
  generalize hy:l.getD (a+1) 0=y
  generalize hz:l.getD (a+1+1) 0=z
  generalize hu:l.getD (a+1+1+1) 0=u
  have:=x.toNat_lt;have:=y.toNat_lt;have:=z.toNat_lt;have:=u.toNat_lt
  constructor
  · rintro⟨h1,h2,h3,h4⟩
    obtain⟨n,hn⟩:=Int.eq_ofNat_of_zero_le h1
    rw[hn,Int.toNat_natCast]at h3 h4
    rw[Mr (by omega)]at h4
    refine⟨x.toNat%8,65536,n,lead_4.2 ⟨by omega,rfl,rfl⟩,tail_iff.2 ⟨by rw[hy];omega,tail_iff.2 ⟨by rw[hz];omega,tail_iff.2 ⟨by rw[hu];omega,F3.2 (by rw[hy,hz,hu];omega)⟩⟩⟩,by omega,h3⟩
  · rintro⟨r,m,q,h1,h2,h3,h4⟩
    have hq:=Ra h4
    obtain⟨h5,rfl,rfl⟩:=lead_4.1 h1
    obtain⟨h6,h7⟩:=tail_iff.1 h2
    obtain⟨h7,h8⟩:=tail_iff.1 h7
    obtain⟨h8,h9⟩:=tail_iff.1 h8
    have h9:=F3.1 h9
    rw[hy]at h6 h9
    rw[hz]at h7 h9
    rw[hu]at h8 h9
    have hn:((x.toNat:Int)-240)*262144+((y.toNat:Int)-128)*4096+((z.toNat:Int)-128)*64+(u.toNat:Int)-128=(q:Int):=by omega
    rw[hn,Int.toNat_natCast]
    exact⟨by omega,by omega,h4,(Mr (by omega)).2 ⟨by omega,by omega,by omega,by omega,by omega⟩⟩
theorem Ms{l:List UInt8}{a n:Nat}(h1:1≤n)(h4:n≤4)(h:a+n≤l.length):EL l a n↔G9 l a n:=by
  obtain rfl | rfl | rfl | rfl:n=1∨n=2∨n=3∨n=4:=by omega
  · exact RZ (by omega)
  · exact R2 (by omega)
  · exact R3 (by omega)
  · exact R4 (by omega)
theorem Om{l:List UInt8}{a n:Nat}(h:G9 l a n):n≤4:=by
  obtain⟨r,m,q,h,-⟩:=h
  have:=(Iq h).1
  omega
theorem M3{l:List UInt8}{a n:Nat}(ha:a<l.length)(h1:1≤n)(h4:n≤4)(h:a+n≤l.length)(hk:EL l a n):CU l a=some (a+n):=
  (Lu ha).2 ⟨n,h1,rfl,h,(Ms h1 h4 h).1 hk⟩
theorem QD{l:List UInt8}{a:Nat}(ha:a<l.length)(h:∀n,1≤n→n≤4→a+n≤l.length→¬EL l a n):CU l a=none:=by
  cases hd:CU l a with
  | none=>rfl
  | some b=>
    obtain⟨n,h1,rfl,h3,h5⟩:=(Lu ha).1 hd
    exact absurd ((Ms h1 (Om h5) h3).2 h5) (h n h1 (Om h5) h3)
/-! ### Numbers below 0; a literal of bytes (any program) -/
theorem F4(t:TypeId)(a b:Int)(h: -9223372036854775808≤a+b∧a+b≤9223372036854775807):Go.binOp .add t (.int .i64 a) (.int .i64 b)=pure (.int .i64 (a+b)):=by
  show pure (Value.int .i64 (IntKind.i64.wrap (a+b)))=_
  rw[IntWalk.i64_in _ h]
theorem DL(t:TypeId)(a b:Int)(h: -9223372036854775808≤a-b∧a-b≤9223372036854775807):Go.binOp .sub t (.int .i64 a) (.int .i64 b)=pure (.int .i64 (a-b)):=by
  show pure (Value.int .i64 (IntKind.i64.wrap (a-b)))=_
  rw[IntWalk.i64_in _ h]
theorem F5(t:TypeId)(a b:Int)(h: -9223372036854775808≤a*b∧a*b≤9223372036854775807):Go.binOp .mul t (.int .i64 a) (.int .i64 b)=pure (.int .i64 (a*b)):=by
  show pure (Value.int .i64 (IntKind.i64.wrap (a*b)))=_
  rw[IntWalk.i64_in _ h]
section
variable {P : Program} {K : Value → World → Prop} {ρ : Au} {w : World} {d : Option Tmp} {ty : TypeId} {pos : String} {af : Array Edge} {gd : Option (Nat × Bool)}
theorem Yk.lit2{t e:TypeId}(hr:∀(z0 z1:Int) (w:World),(Instr.buildSlice t 2 #[(0, .int .u8 z0),(1, .int .u8 z1)]).run P w = .ok (.slice (some ⟨w.heap.size,0,none⟩) 2 2) (w.alloc (.cells #[.int .u8 z0, .int .u8 z1] e))) 
    {x0 x1:Operand} {b0 b1:UInt8} (h0:Ag ρ x0=B8 b0) (h1:Ag ρ x1=B8 b1)
    (hk:∀v w',NewB e w w' v [b0,b1]→K v w'):Yk P K ((execOp (Ag ρ) ⟨d, .buildSlice t 2 #[(0,x0),(1,x1)],ty,pos,af,gd⟩).run P w):=by
  have hr' :(execOp (Ag ρ) ⟨d, .buildSlice t 2 #[(0,x0),(1,x1)],ty,pos,af,gd⟩).run P w = .ok (.value (.slice (some ⟨w.heap.size,0,none⟩) 2 2)) (w.alloc (.cells (Lib.byteCells [b0,b1]).toArray e)):=by
    unfold execOp
    simp only[List.map_toArray,List.map_cons,List.map_nil,h0,h1,Sem.run_bind,hr,Result.andThen_ok,Sem.run_pure]
    rfl
  rw[hr']
  exact hk _ _ (Fb w e [b0,b1] (by simp))
theorem Yk.lit3{t e:TypeId}(hr:∀(z0 z1 z2:Int) (w:World),(Instr.buildSlice t 3 #[(0, .int .u8 z0),(1, .int .u8 z1),(2, .int .u8 z2)]).run P w = .ok (.slice (some ⟨w.heap.size,0,none⟩) 3 3) (w.alloc (.cells #[.int .u8 z0, .int .u8 z1, .int .u8 z2] e))) 
    {x0 x1 x2:Operand} {b0 b1 b2:UInt8} (h0:Ag ρ x0=B8 b0) (h1:Ag ρ x1=B8 b1) (h2:Ag ρ x2=B8 b2)
    (hk:∀v w',NewB e w w' v [b0,b1,b2]→K v w'):Yk P K ((execOp (Ag ρ) ⟨d, .buildSlice t 3 #[(0,x0),(1,x1),(2,x2)],ty,pos,af,gd⟩).run P w):=by
  have hr' :(execOp (Ag ρ) ⟨d, .buildSlice t 3 #[(0,x0),(1,x1),(2,x2)],ty,pos,af,gd⟩).run P w = .ok (.value (.slice (some ⟨w.heap.size,0,none⟩) 3 3)) (w.alloc (.cells (Lib.byteCells [b0,b1,b2]).toArray e)):=by
    unfold execOp
    simp only[List.map_toArray,List.map_cons,List.map_nil,h0,h1,h2,Sem.run_bind,hr,Result.andThen_ok,Sem.run_pure]
    rfl
  rw[hr']
  exact hk _ _ (Fb w e [b0,b1,b2] (by simp))
theorem Yk.lit4{t e:TypeId}(hr:∀(z0 z1 z2 z3:Int) (w:World),(Instr.buildSlice t 4 #[(0, .int .u8 z0),(1, .int .u8 z1),(2, .int .u8 z2),(3, .int .u8 z3)]).run P w = .ok (.slice (some ⟨w.heap.size,0,none⟩) 4 4) (w.alloc (.cells #[.int .u8 z0, .int .u8 z1, .int .u8 z2, .int .u8 z3] e))) 
    {x0 x1 x2 x3:Operand} {b0 b1 b2 b3:UInt8} (h0:Ag ρ x0=B8 b0) (h1:Ag ρ x1=B8 b1) (h2:Ag ρ x2=B8 b2) (h3:Ag ρ x3=B8 b3)
    (hk:∀v w',NewB e w w' v [b0,b1,b2,b3]→K v w'):Yk P K ((execOp (Ag ρ) ⟨d, .buildSlice t 4 #[(0,x0),(1,x1),(2,x2),(3,x3)],ty,pos,af,gd⟩).run P w):=by
  have hr' :(execOp (Ag ρ) ⟨d, .buildSlice t 4 #[(0,x0),(1,x1),(2,x2),(3,x3)],ty,pos,af,gd⟩).run P w = .ok (.value (.slice (some ⟨w.heap.size,0,none⟩) 4 4)) (w.alloc (.cells (Lib.byteCells [b0,b1,b2,b3]).toArray e)):=by
    unfold execOp
    simp only[List.map_toArray,List.map_cons,List.map_nil,h0,h1,h2,h3,Sem.run_bind,hr,Result.andThen_ok,Sem.run_pure]
    rfl
  rw[hr']
  exact hk _ _ (Fb w e [b0,b1,b2,b3] (by simp))
theorem Yk.lit1S{α:Type}{enc:α→List Value}{t e:TypeId}{x:Operand}{a:α}{u:Value}(hx:Ag ρ x=u)(hu:enc a= [u]) 
    (hr:∀w:World,(Instr.buildSlice t 1 #[(0,u)]).run P w = .ok (.slice (some ⟨w.heap.size,0,none⟩) 1 1) (w.alloc (.cells #[u] e)))
    (hk:∀v w',RG 1 enc w' v [a]→Ext w w' →K v w'):Yk P K ((execOp (Ag ρ) ⟨d, .buildSlice t 1 #[(0,x)],ty,pos,af,gd⟩).run P w):=by
  have hE:Ext w (w.alloc (.cells #[u] e)):=(Below.refl _ _).alloc (Nat.le_refl _) _
  have hb:(w.alloc (.cells #[u] e)).heap[w.heap.size]? =some (.cells ([u]:List Value).toArray e (0,0)):=heap_alloc_new w _
  refine Yk.value (v:= .slice (some ⟨w.heap.size,0,none⟩) 1 1) (w' :=w.alloc (.cells #[u] e)) ?_ (hk _ _ ⟨fun y hy=>by rw[List.mem_singleton.1 hy,hu];rfl,by simp[hu],_,1,rfl,Nat.le_refl _,by simp[maxLen],(fun h=>by cases h),fun q hq j z hz=> ?_⟩ hE)
  · unfold execOp
    simp only[List.map_toArray,List.map_cons,List.map_nil,hx,Sem.run_bind,hr,Result.andThen_ok,Sem.run_pure]
  · cases hq
    rw[Addr.add_lit,Nat.zero_add]
    exact Al hb (by simpa [hu] using hz)
end
open Go.RowKit
set_option maxRecDepth 100000
theorem QE(y:Ba)(note:Bs):updC y++ [Value.string ⟨note.toArray⟩]=entC (entOf y note):=by simp[entC,updC,entOf]
theorem JU:AI Tryz.prog 55:=fun _ _=>by kernel_rfl
theorem Gp:(Tryz.prog.info? 25).map (·.size)=some 1:=by kernel_rfl
theorem Oo:AI Tryz.prog 56:=fun _ _=>by kernel_rfl
theorem JV:Tryz.prog.underlying 79=some (.slice 48):=by kernel_rfl
theorem M4:∀w' :World,(sizeOf 48).run Tryz.prog w' = .ok 66 w' :=fun _=>by kernel_rfl
theorem Oq{d:Option Tmp}{ty:TypeId}{pos:String}{af:Array Edge}{gd:Option (Nat × Bool)}(σ:Operand→Value)(w:World):(execOp σ ⟨d, .alloc 48,ty,pos,af,gd⟩).run Tryz.prog w = .ok (.value (PQ w.heap.size 0)) (w.alloc (.cells (updC (⟨0,[],zid,zid⟩:Ba)).toArray 48)):=by kernel_rfl
theorem Or:AI Tryz.prog 57:=fun _ _=>by kernel_rfl
theorem PK:∀(cs:Array Value),cs.size=66→∀(s:ByteArray) (w:World),(Instr.build 50 #[(0,Value.agg cs),(1,Value.string s)]).run Tryz.prog w = .ok (.agg (cs.toList++ [Value.string s]).toArray) w
 | ⟨c0 :: c1 :: c2 :: c3 :: c4 :: c5 :: c6 :: c7 :: c8 :: c9 :: c10 :: c11 :: c12 :: c13 :: c14 :: c15 :: c16 :: c17 :: c18 :: c19 :: c20 :: c21 :: c22 :: c23 :: c24 :: c25 :: c26 :: c27 :: c28 :: c29 :: c30 :: c31 :: c32 :: c33 :: c34 :: c35 :: c36 :: c37 :: c38 :: c39 :: c40 :: c41 :: c42 :: c43 :: c44 :: c45 :: c46 :: c47 :: c48 :: c49 :: c50 :: c51 :: c52 :: c53 :: c54 :: c55 :: c56 :: c57 :: c58 :: c59 :: c60 :: c61 :: c62 :: c63 :: c64 :: c65 :: []⟩,_,s,w=>by kernel_rfl
theorem Ot(c0 c1 c2 c3 c4 c5 c6 c7 c8 c9 c10 c11 c12 c13 c14 c15 c16 c17 c18 c19 c20 c21 c22 c23 c24 c25 c26 c27 c28 c29 c30 c31 c32 c33 c34 c35 c36 c37 c38 c39 c40 c41 c42 c43 c44 c45 c46 c47 c48 c49 c50 c51 c52 c53 c54 c55 c56 c57 c58 c59 c60 c61 c62 c63 c64 c65 c66:Value)(w:World):(Instr.buildSlice 25 1 #[(0, .agg #[c0,c1,c2,c3,c4,c5,c6,c7,c8,c9,c10,c11,c12,c13,c14,c15,c16,c17,c18,c19,c20,c21,c22,c23,c24,c25,c26,c27,c28,c29,c30,c31,c32,c33,c34,c35,c36,c37,c38,c39,c40,c41,c42,c43,c44,c45,c46,c47,c48,c49,c50,c51,c52,c53,c54,c55,c56,c57,c58,c59,c60,c61,c62,c63,c64,c65,c66])]).run Tryz.prog w = .ok (.slice (some ⟨w.heap.size,0,none⟩) 1 1) (w.alloc (.cells #[c0,c1,c2,c3,c4,c5,c6,c7,c8,c9,c10,c11,c12,c13,c14,c15,c16,c17,c18,c19,c20,c21,c22,c23,c24,c25,c26,c27,c28,c29,c30,c31,c32,c33,c34,c35,c36,c37,c38,c39,c40,c41,c42,c43,c44,c45,c46,c47,c48,c49,c50,c51,c52,c53,c54,c55,c56,c57,c58,c59,c60,c61,c62,c63,c64,c65,c66] 50)):=by kernel_rfl
theorem Ou:∀(cs:Array Value),cs.size=67→∀w:World,(Instr.buildSlice 25 1 #[(0, .agg cs)]).run Tryz.prog w = .ok (.slice (some ⟨w.heap.size,0,none⟩) 1 1) (w.alloc (.cells cs 50))
 | ⟨c0 :: c1 :: c2 :: c3 :: c4 :: c5 :: c6 :: c7 :: c8 :: c9 :: c10 :: c11 :: c12 :: c13 :: c14 :: c15 :: c16 :: c17 :: c18 :: c19 :: c20 :: c21 :: c22 :: c23 :: c24 :: c25 :: c26 :: c27 :: c28 :: c29 :: c30 :: c31 :: c32 :: c33 :: c34 :: c35 :: c36 :: c37 :: c38 :: c39 :: c40 :: c41 :: c42 :: c43 :: c44 :: c45 :: c46 :: c47 :: c48 :: c49 :: c50 :: c51 :: c52 :: c53 :: c54 :: c55 :: c56 :: c57 :: c58 :: c59 :: c60 :: c61 :: c62 :: c63 :: c64 :: c65 :: c66 :: []⟩,_,w=>Ot c0 c1 c2 c3 c4 c5 c6 c7 c8 c9 c10 c11 c12 c13 c14 c15 c16 c17 c18 c19 c20 c21 c22 c23 c24 c25 c26 c27 c28 c29 c30 c31 c32 c33 c34 c35 c36 c37 c38 c39 c40 c41 c42 c43 c44 c45 c46 c47 c48 c49 c50 c51 c52 c53 c54 c55 c56 c57 c58 c59 c60 c61 c62 c63 c64 c65 c66 w
set_option maxHeartbeats 1600000
theorem Ma(w:World)(z0:Ah)(hm:RefsAt w z0)(hL:By z0.1)(lv:Value)(l:List Ba)(hr:RG 66 updC w lv l)(hl:l.length≤1000)(hln:∀u∈l,u.name.length≤9223372036854775807)(note:Bs):
  Calls Tryz.prog 29 #[.agg (refsC z0).toArray,lv,St note] w fun e w' =>∃v,e = .returned (.tuple #[.agg (refsC ((Db z0.1 l note).2,v)).toArray,NI (Db z0.1 l note).1])∧RefsOw w.heap.size w' ((Db z0.1 l note).2,v)∧Ext w w' :=by
 have hmt:=hm.branches
 have hmg:=hm.tags
 have hml:=hm.log
 refine As (args:= [.agg (refsC z0).toArray,lv,St (note)]) Tryz.func29 rfl 77 rfl (Nat.le_of_ble_eq_true rfl) ?_
 intro bq hb
 have T0:bq 0=(.agg (refsC z0).toArray:Value):=hb.get 0
 have T1:bq 1=(lv:Value):=hb.get 1
 have T2:bq 2=(St (note):Value):=hb.get 2
 clear hb
 have hE:=Ext.refl w
 refine sk fun K1 c3=>(wt (oS rfl (Yk.box (cs:=(refsC z0:List Value).toArray) T0 fun j w3 e2 b9 c5 e4=> ?_)))
 have hE:=hE.trans c5
 have g:=b9;clear b9
 have e5:j<w3.heap.size:=by omega
 refine oS rfl (Yk.alloc (cs:=(refsC ((⟨[],[],[],zid,[]⟩,⟨.slice none 0 0, .slice none 0 0, .slice none 0 0⟩):Ah)).toArray) N8 fun ac c6 c7 ca cb e6=> ?_)
 have bi:=hE.size
 have e7:=Bc (bl g) c7
 have hE:=hE.trans cb
 have g:=eb cb g
 have c:=ca;clear ca
 have e8:ac<c6.heap.size:=by omega
 refine oA rfl (oZ (tN (c3 _ _ (sk fun e9 c8=>(sk fun fa c9=>(wt (oS rfl (Yk.loadAll (vr (PQ j 0) rfl) g (N9).choose_spec rfl (AC (Ao z0) IJ) (oS rfl (Yk.callA1 Of (vr (.agg (refsC z0).toArray) rfl) ((ET _ z0 ⟨(hmt.keep hE),(hmg.keep hE),(hml.keep hE)⟩ hL).mono ?_)))))))))))
 rintro e fb ⟨rfl,bs⟩
 refine⟨_,rfl,?_⟩
 have hE:=hE.trans bs
 have g:=eb bs g
 have c:=eb bs c
 refine oS rfl (Yk.notB (vr (.bool (AO z0.1)) rfl) (oM rfl (Ac (St (note)) rfl rfl (gF (vr (.bool (!(AO z0.1))) rfl)) (fun hG26=>Yk.move T2 ⟨rfl,rfl⟩) (BF (.bool (BL note)) rfl rfl (gF (vr (.bool (!(AO z0.1))) rfl)) (fun hG27=>Yk.callA1 NL (Ak (vr (cond (!(!(AO z0.1))) (St (note)) undef) rfl) hG27) ((Lc _ note).mono (by rintro e w2 ⟨rfl,hx⟩;exact⟨_,rfl,rfl,hx⟩))) fun fc bu=> ?_))))
 have hE:=hE.trans bu
 have g:=eb bu g
 have c:=eb bu c
 refine Ac (.bool (!(BL note))) rfl rfl (gF (vr (.bool (!(AO z0.1))) rfl)) (fun hG31=>Yk.notB (Ak (vr (cond (!(!(AO z0.1))) (.bool (BL note)) undef) rfl) hG31) ⟨rfl,rfl⟩) (oS rfl (Yk.pickOrN (vr (.bool (!(AO z0.1))) rfl) (vr (.bool (true)) rfl) (fun hA=>(Ak (vr (cond (!(!(AO z0.1))) (.bool (!(BL note))) undef) rfl) (Bb hA))) fun bb32 hbb33=>(oZ (tN (c9 _ _ ?_)))))
 refine AW (bb32) (vr (.bool (bb32)) rfl) (fun bv=> ?_) (fun bv=> ?_)
 ·subst hbb33
  have h0c:((!AO z0.1)||(!BL note))=true:=bv
  refine sk fun fd da=>(wt (oS rfl (Yk.run (v:= .agg (refsC ((⟨[],[],[],zid,[]⟩,⟨.slice none 0 0, .slice none 0 0, .slice none 0 0⟩):Ah)).toArray) (by kernel_rfl) (oS rfl (Yk.storeAll (vr (PQ ac 0) rfl) (vr (.agg (refsC ((⟨[],[],[],zid,[]⟩,⟨.slice none 0 0, .slice none 0 0, .slice none 0 0⟩):Ah)).toArray) rfl) c (by simp only[List.size_toArray,Ao]) (AC (Ao _) IJ) (Br (x:=((⟨[],[],[],zid,[]⟩,⟨.slice none 0 0, .slice none 0 0, .slice none 0 0⟩):Ah)) rfl rfl rfl) fun db cc cd fe=> ?_)))))
  have hE:=Af hE cd (Nat.le_trans bi (by omega))
  have g:=kb cd g (by omega)
  clear c
  have c:db.heap[ac]? =some (.cells (refsC ((⟨[],[],[],zid,[]⟩,⟨.slice none 0 0, .slice none 0 0, .slice none 0 0⟩):Ah)).toArray 35 (0,0)):=cc;clear cc
  have ff:=bl c
  refine oA rfl (oZ (tN (da _ _ (Am (An (Aj (fn:=Tryz.f29) _ rfl [.agg (refsC ((⟨[],[],[],zid,[]⟩,⟨.slice none 0 0, .slice none 0 0, .slice none 0 0⟩):Ah)).toArray,NI 1] (.tuple #[.agg (refsC ((⟨[],[],[],zid,[]⟩,⟨.slice none 0 0, .slice none 0 0, .slice none 0 0⟩):Ah)).toArray,NI 1]) rfl ⟨ResF.row rfl c (N9).choose_spec rfl (AC (Ao _) IJ),rfl,trivial⟩ ?_))))))
  have hAp:=M0 (l:=l) h0c
  exact⟨⟨.slice none 0 0, .slice none 0 0, .slice none 0 0⟩,by rw[hAp],by rw[hAp];exact⟨OG.nil _ _ _ _ _,OG.nil _ _ _ _ _,OG.nil _ _ _ _ _⟩,hE⟩
 subst hbb33
 have h0c:((!AO z0.1)||(!BL note))=false:=bv
 have hrt:AO z0.1=true:=by simp only[Bool.or_eq_false_iff,Bool.not_eq_false']at h0c;exact h0c.1
 have az:=GE hrt
 have hlg:=(Fl hrt).2.2
 have dc:=az.bl
 have ht0:=az.tl
 refine Aq (tN (c8 _ _ (sk fun fg dd=> ?_)))
 refine Cw 9 [Is (PQ j 0),Is (z0.2.branches),fun z' w' =>OG w.heap.size 60 33 nmdC w' z' (z0.1.branches),Is (PQ j 1),Is (z0.2.tags),fun z' w' =>OG w.heap.size 60 33 nmdC w' z' (z0.1.tags),Is (PQ j 35),Is (z0.2.log),fun z' w' =>OG w.heap.size 50 67 entC w' z' (z0.1.log)] (by kernel_rfl) [22,23,24,25,26,27,28,29,30,31,32,33] (by kernel_rfl) (by kernel_rfl) (by kernel_rfl) (by kernel_rfl) rfl rfl (DG ⟨(fun _ _ _ h k=>OG.keep h k),(DG ⟨(fun _ _ _ h k=>OG.keep h k),(DG ⟨(fun _ _ _ h k=>OG.keep h k),trivial⟩)⟩)⟩) ?de ?hQ1003
 case de=>
  refine⟨?_,?_,?_,?_,?_,?_,?_,?_,?_,?_,?_,?_,?_,?_,?_,trivial⟩
  ·refine Ax (Aa rfl fun σ w1 hC h=> ?_)
   have e3:σ 3=PQ j 0:=(Ae (h 3 (by decide))).trans rfl
   exact Yk.fieldAt LU e3 ⟨Ext.refl _,rfl⟩
  ·refine Ax (Aa rfl fun σ w1 hC h=> ?_)
   have df:=Ae (h 22 (by decide))
   exact Yk.cell1 D5 rfl df (Al (eb hC g) (show(refsC z0)[0]? =some (z0.2.branches:Value)from BN z0)) ⟨Ext.refl _,rfl⟩
  ·refine Ax (Aa rfl fun σ w1 hC h=> ?_)
   have dg:=Ae (h 23 (by decide))
   refine Yk.callA1 JI dg ((Eh _ z0.2.branches (z0.1.branches) (hmt.keep (hE.trans hC)) (by have:=dc;omega)).mono ?_)
   rintro e w2 ⟨v,rfl,ho,hx⟩
   exact⟨_,rfl,hx,OG.low ho (Nat.le_trans hE.size hC.size)⟩
  ·refine Ax (Aa rfl fun σ w1 hC h=> ?_)
   have e3:σ 3=PQ j 0:=(Ae (h 3 (by decide))).trans rfl
   exact Yk.fieldAt LV e3 ⟨Ext.refl _,rfl⟩
  ·refine Ax (Aa rfl fun σ w1 hC h=> ?_)
   have dh:=Ae (h 25 (by decide))
   exact Yk.cell1 D5 rfl dh (Al (eb hC g) (show(refsC z0)[1]? =some (z0.2.tags:Value)from B6 z0)) ⟨Ext.refl _,rfl⟩
  ·refine Ax (Aa rfl fun σ w1 hC h=> ?_)
   have di:=Ae (h 26 (by decide))
   refine Yk.callA1 JI di ((Eh _ z0.2.tags (z0.1.tags) (hmg.keep (hE.trans hC)) (by have:=ht0;omega)).mono ?_)
   rintro e w2 ⟨v,rfl,ho,hx⟩
   exact⟨_,rfl,hx,OG.low ho (Nat.le_trans hE.size hC.size)⟩
  ·refine Ax (Aa rfl fun σ w1 hC h=> ?_)
   have e3:σ 3=PQ j 0:=(Ae (h 3 (by decide))).trans rfl
   exact Yk.fieldAt HK e3 ⟨Ext.refl _,rfl⟩
  ·refine Ax (Aa rfl fun σ w1 hC h=> ?_)
   have dj:=Ae (h 28 (by decide))
   exact Yk.cell1 EA rfl dj (Al (eb hC g) (show(refsC z0)[35]? =some (z0.2.log:Value)from Bn z0)) ⟨Ext.refl _,rfl⟩
  ·refine Ax (Aa rfl fun σ w1 hC h=> ?_)
   have dk:=Ae (h 29 (by decide))
   refine Yk.callA1 JU dk ((G5 _ z0.2.log (z0.1.log) (hml.keep (hE.trans hC)) (by have:=hlg;omega)).mono ?_)
   rintro e w2 ⟨v,rfl,ho,hx⟩
   exact⟨_,rfl,hx,OG.low ho (Nat.le_trans hE.size hC.size)⟩
  ·exact trivial
  ·exact trivial
  ·exact trivial
  ·exact trivial
  ·exact trivial
  ·exact trivial
 intro a0 bw bx he hf
 obtain⟨-,-,k24,-,-,k27,-,-,k30,-⟩:=hf
 obtain⟨T0,T1,T2,p,s,T7,-⟩:=he.hold [(0,_),(1,_),(2,_),(3,PQ j 0),(6,PQ ac 0),(7,NI 0)] ⟨T0,T1,T2,rfl,rfl,rfl,trivial⟩ rfl
 clear he
 have hE:=hE.trans bx
 have g:=eb bx g
 have c:=eb bx c
 have k24:(fun z' w' =>OG w.heap.size 60 33 nmdC w' z' (z0.1.branches)) (a0 24) bw:=k24
 obtain⟨am,cf⟩:∃v,a0 24=v:=⟨_,rfl⟩
 rw[cf]at k24
 have t:=k24;clear k24
 have bz:=OG.off t g (by decide)
 have k27:(fun z' w' =>OG w.heap.size 60 33 nmdC w' z' (z0.1.tags)) (a0 27) bw:=k27
 obtain⟨aw,cg⟩:∃v,a0 27=v:=⟨_,rfl⟩
 rw[cg]at k27
 have aa:=k27;clear k27
 have b0:=OG.off aa g (by decide)
 have k30:(fun z' w' =>OG w.heap.size 50 67 entC w' z' (z0.1.log)) (a0 30) bw:=k30
 obtain⟨a1,ch⟩:∃v,a0 30=v:=⟨_,rfl⟩
 rw[ch]at k30
 have ab:=k30;clear k30
 have b1:=OG.off ab g (by decide)
 refine oS rfl (Yk.fieldAt LU p (oS rfl (Yk.storeC (i:=0) (v:=am) (vr (PQ j 0) rfl) cf g (by rw[Ao];decide) IL (RG.one (RG.ofOwn t)).1 (RG.one (RG.ofOwn t)).2 fun dl ci ba fh=> ?_)))
 have hE:=Af hE ba (Nat.le_trans (Nat.le_refl _) (by omega))
 have c:=kb ba c (by omega)
 have t:=OG.kept t ba bz
 have aa:=OG.kept aa ba b0
 have ab:=OG.kept ab ba b1
 clear g
 have g:dl.heap[j]? =some (.cells (refsC ((⟨z0.1.branches,z0.1.tags,z0.1.head,z0.1.at_,z0.1.log⟩,⟨am,z0.2.tags,z0.2.log⟩):Ah)).toArray 35 (0,0)):=AG ci (E2 z0 am (z0.1.branches));clear ci
 have fi:=bl g
 refine oS rfl (Yk.fieldAt LV p (oS rfl (Yk.storeC (i:=1) (v:=aw) (vr (PQ j 1) rfl) cg g (by rw[Ao];decide) IL (RG.one (RG.ofOwn aa)).1 (RG.one (RG.ofOwn aa)).2 fun dm cj bb fj=> ?_)))
 have hE:=Af hE bb (Nat.le_trans (Nat.le_refl _) (by omega))
 have c:=kb bb c (by omega)
 have t:=OG.kept t bb bz
 have aa:=OG.kept aa bb b0
 have ab:=OG.kept ab bb b1
 clear g
 have g:dm.heap[j]? =some (.cells (refsC ((⟨z0.1.branches,z0.1.tags,z0.1.head,z0.1.at_,z0.1.log⟩,⟨am,aw,z0.2.log⟩):Ah)).toArray 35 (0,0)):=AG cj (E3 ((⟨z0.1.branches,z0.1.tags,z0.1.head,z0.1.at_,z0.1.log⟩,⟨am,z0.2.tags,z0.2.log⟩):Ah) aw (z0.1.tags));clear cj
 have fk:=bl g
 refine oS rfl (Yk.fieldAt HK p (oS rfl (Yk.storeC (i:=35) (v:=a1) (vr (PQ j 35) rfl) ch g (by rw[Ao];decide) Gp (RG.one (RG.ofOwn ab)).1 (RG.one (RG.ofOwn ab)).2 fun dn ck bc fl=> ?_)))
 have hE:=Af hE bc (Nat.le_trans (Nat.le_refl _) (by omega))
 have c:=kb bc c (by omega)
 have t:=OG.kept t bc bz
 have aa:=OG.kept aa bc b0
 have ab:=OG.kept ab bc b1
 clear g
 have g:dn.heap[j]? =some (.cells (refsC ((⟨z0.1.branches,z0.1.tags,z0.1.head,z0.1.at_,z0.1.log⟩,⟨am,aw,a1⟩):Ah)).toArray 35 (0,0)):=AG ck (D1 ((⟨z0.1.branches,z0.1.tags,z0.1.head,z0.1.at_,z0.1.log⟩,⟨am,aw,z0.2.log⟩):Ah) a1 (z0.1.log));clear ck
 have fm:=bl g
 refine oZ (tN (dd _ _ (sk fun fo dp=>(wt (oS rfl (Yk.callA0 Oo ((MZ _).mono ?_)))))))
 rintro e bd ⟨gm,rfl,hmp,hgm,a2⟩
 refine⟨_,rfl,?_⟩
 have fp:ac<gm:=Nat.lt_of_lt_of_le (bl c) hgm
 have fq:j<gm:=Nat.lt_of_lt_of_le (bl g) hgm
 have hE:=hE.trans a2
 have c:=eb a2 c
 have t:=t.keep a2
 have aa:=aa.keep a2
 have ab:=ab.keep a2
 have g:=eb a2 g
 have hgl:gm<bd.heap.size:=hmp.lt
 refine oA rfl (oZ (tN (dp _ _ (sk fun fr dq=>(sk fun fs dr=>(wt (oM rfl (oS rfl (Yk.lenRG JV (RG.of (hr.keep hE) T1) (oM rfl (A3 [(0, .agg (refsC z0).toArray),(1,lv),(2,St (note)),(3,PQ j 0),(6,PQ ac 0),(7,NI 0),(8, .map (some gm)),(35,lv),(36,NI l.length),(37,NI 0)] ⟨T0,T1,T2,p,s,T7,rfl,T1,rfl,rfl,trivial⟩ fun ft ⟨T0,T1,T2,p,s,T7,T8,a4,a5,ap,_⟩=> ?_)))))))))))
 have b2:OG w.heap.size 60 33 nmdC bd am (z0.1.branches):=t
 have b3:OG w.heap.size 60 33 nmdC bd aw (z0.1.tags):=aa
 have bj:OG w.heap.size 50 67 entC bd a1 (z0.1.log):=ab
 have hP:AppAt w bd j ((⟨z0.1.branches,z0.1.tags,z0.1.head,z0.1.at_,z0.1.log⟩,⟨am,aw,a1⟩):Ah):=⟨hE,by omega,g,b2,b3,bj,(OG.off b2 g (by decide)),(OG.off b3 g (by decide)),(OG.off bj g (by decide)),OG.apart bj b2 (by decide),OG.apart bj b3 (by decide)⟩
 refine tN (dr _ _ (Av (A4 (fun(ρ:Au) (wz:World)=>∃i:Nat,∃z:Ah,ρ 0=(.agg (refsC z0).toArray:Value)∧ρ 1=(lv:Value)∧ρ 2=(St (note):Value)∧ρ 3=(PQ j 0:Value)∧ρ 6=(PQ ac 0:Value)∧ρ 8=(.map (some gm):Value)∧ρ 35=(lv:Value)∧ρ 36=(NI l.length:Value)∧ρ 37=(NI i:Value)∧Ext w wz∧wz.heap[ac]? =some (.cells (refsC ((⟨[],[],[],zid,[]⟩,⟨.slice none 0 0, .slice none 0 0, .slice none 0 0⟩):Ah)).toArray 35 (0,0))∧MapF B8 JJ (fun _:UInt8=>True) wz gm doG∧AppAt w wz j z∧(i≤l.length)∧(DW note z0.1 l=DW note z.1 (l.drop i))∧(Ei z.1)∧(z.1.log.length≤64+i)∧True) (fun ρ _=>l.length-(intOf (ρ 37)).toNat) ⟨0,((⟨z0.1.branches,z0.1.tags,z0.1.head,z0.1.at_,z0.1.log⟩,⟨am,aw,a1⟩):Ah),T0,T1,T2,p,s,T8,a4,a5,ap,hE,c,hmp,hP,Nat.zero_le _,rfl,⟨az.br,az.tg,az.bl,az.tl⟩,(show z0.1.log.length≤64+0 by omega),trivial⟩ ?_)))
 clear t
 clear aa
 clear ab
 clear g
 clear hP
 clear hE c hmp
 rintro ds dt ⟨i,z,T0,T1,T2,p,s,T8,a4,a5,ap,hE,c,hmp,hQ,hi,hrun,hS,hlog,-⟩
 have q37:=ap
 refine sk fun fu du=>(wt (oS rfl (Yk.eqI (a:=(i:Nat)) (b:=(l.length:Nat)) ap a5 (AX _ _ _ _) (oZ (tN (du _ _ (sk fun fv dv=> ?_)))))))
 refine AL ((i)<(l.length)) (vr (.bool (decide ((i)<(l.length)))) rfl) (fun cl=> ?_) (fun cl=> ?_)
 ·have hlt:i<l.length:=cl
  refine Aq (tN (dv _ _ (sk fun fw dw=>(Av (sk fun fx dx=>(wt ?_))))))
  have fy:(updC (l.getD (i) A8)).length=66:=(RG.elem (hr.keep hE) A8 (by omega))
  refine oS rfl (Yk.atRG JV M4 (by decide) A8 (RG.of (hr.keep hE) a4) ap (by omega) fun dy cm=>(oS rfl (Yk.loadPR (PR.of cm (vr dy rfl)) (JK).choose_spec rfl (by rw[BT];exact IK) (oS rfl (Yk.alloc (cs:=(updC (⟨0,[],zid,zid⟩:Ba)).toArray) Oq fun aq dz cn co bk fz=> ?_)))))
  have ar:=Ext.refl dt
  have d0:=hE.size
  have f0:=Bc (bl c) cn
  have f1:=Bc hmp.lt cn
  have hE:=hE.trans bk
  have c:=eb bk c
  have hmp:=hmp.keep bk
  have ar:=ar.trans bk
  have q:=co;clear co
  have f2:aq<dz.heap.size:=by omega
  refine oS rfl (Yk.storeAll (vr (PQ aq 0) rfl) (vr (.agg (updC (l.getD (i) A8)).toArray) rfl) q (by simp only[List.size_toArray,BT]) (AC (BT _) IK) (Mj (x:=(l.getD (i) A8))) fun d1 cp bm f3=> ?_)
  have hE:=Af hE bm (Nat.le_trans d0 (by omega))
  have c:=kb bm c (by omega)
  have hmp:=MapF.other hmp bm (Em (by omega))
  have ar:=Af ar bm (Nat.le_trans (Nat.le_refl _) (by omega))
  clear q
  have q:d1.heap[aq]? =some (.cells (updC (l.getD (i) A8)).toArray 48 (0,0)):=cp;clear cp
  have f4:=bl q
  refine oZ ?_
  clear cm
  refine tN (dx _ _ (sk fun f5 d2=>(sk fun f6 d3=>(wt (oS rfl (Yk.loadAll (vr (PQ aq 0) rfl) q (JK).choose_spec rfl (AC (BT (l.getD (i) A8)) IK) (oS rfl (Yk.callA1 Or (vr (.agg (updC (l.getD (i) A8)).toArray) rfl) ((MS _ (l.getD i A8) (hln _ (CB A8 hlt))).mono ?_)))))))))
  rintro e f7 ⟨rfl,be⟩
  refine⟨_,rfl,?_⟩
  have hE:=hE.trans be
  have c:=eb be c
  have hmp:=hmp.keep be
  have ar:=ar.trans be
  have q:=eb be q
  refine oA rfl (oZ (tN (d3 _ _ (sk fun f8 d4=>(wt (oM rfl (oS rfl (Yk.eqI (a:=(BI (l.getD i A8):Nat)) (b:=(0:Nat)) rfl rfl (BO _ _ _ _) (oZ (tN (d4 _ _ ?_)))))))))))
  refine AL ((BI (l.getD i A8):Nat)≠(0)) (vr (.bool (decide ((BI (l.getD i A8):Nat)≠(0)))) rfl) (fun b4=> ?_) (fun b4=> ?_)
  ·have hU:BI (l.getD i A8)≠0:=b4
   refine sk fun f9 d5=>(wt (oS rfl (Yk.run (v:= .agg (refsC ((⟨[],[],[],zid,[]⟩,⟨.slice none 0 0, .slice none 0 0, .slice none 0 0⟩):Ah)).toArray) (by kernel_rfl) (oM rfl (oS rfl (Yk.storeAll s (vr (.agg (refsC ((⟨[],[],[],zid,[]⟩,⟨.slice none 0 0, .slice none 0 0, .slice none 0 0⟩):Ah)).toArray) rfl) c (by simp only[List.size_toArray,Ao]) (AC (Ao _) IJ) (Br (x:=((⟨[],[],[],zid,[]⟩,⟨.slice none 0 0, .slice none 0 0, .slice none 0 0⟩):Ah)) rfl rfl rfl) fun d6 cq b5 ga=> ?_))))))
   have hE:=Af hE b5 (Nat.le_trans bi (by omega))
   have hmp:=MapF.other hmp b5 (Em (by omega))
   clear ar
   have q:=kb b5 q (by omega)
   clear c
   have c:d6.heap[ac]? =some (.cells (refsC ((⟨[],[],[],zid,[]⟩,⟨.slice none 0 0, .slice none 0 0, .slice none 0 0⟩):Ah)).toArray 35 (0,0)):=cq;clear cq
   have gb:=bl c
   refine oA rfl (oZ (tN (d5 _ _ (Am (An (AE (An (An (AE (An (Aj (fn:=Tryz.f29) _ rfl [.agg (refsC ((⟨[],[],[],zid,[]⟩,⟨.slice none 0 0, .slice none 0 0, .slice none 0 0⟩):Ah)).toArray,NI (BI (l.getD i A8))] (.tuple #[.agg (refsC ((⟨[],[],[],zid,[]⟩,⟨.slice none 0 0, .slice none 0 0, .slice none 0 0⟩):Ah)).toArray,NI (BI (l.getD i A8))]) rfl ⟨ResF.row s c (N9).choose_spec rfl (AC (Ao _) IJ),rfl,trivial⟩ ?_)))))))))))
   have hAp:=EV h0c (hrun.trans (Oc hlt hU)) hU
   exact⟨⟨.slice none 0 0, .slice none 0 0, .slice none 0 0⟩,by rw[hAp],by rw[hAp];exact⟨OG.nil _ _ _ _ _,OG.nil _ _ _ _ _,OG.nil _ _ _ _ _⟩,hE⟩
  have hU:BI (l.getD i A8)=0:=by simpa using b4
  obtain⟨f,hF⟩:=PE (L9 hU)
  refine Aq (tN (d2 _ _ (sk fun gc d7=>(sk fun gd d8=>(wt (oM rfl (oS rfl (Yk.fieldAt LW (vr (PQ aq 0) rfl) (oS rfl (Yk.cell1 u5 rfl (vr (PQ aq 0) rfl) (Al q (show(updC (l.getD (i) A8))[0]? =some (B8 (((l.getD (i) A8)).kind):Value)from Fd (l.getD (i) A8))) (oS rfl (Yk.lookMS (ek:=B8) (ev:=JJ) (D:=fun _:UInt8=>True) KC KD (fun _ _=>Q1) Gl (z:=Value.nilFunc) Q5 T8 (vr (B8 (((l.getD (i) A8)).kind)) rfl) hmp trivial hF (oS rfl (Yk.loadAll (vr (PQ aq 0) rfl) q (JK).choose_spec rfl (AC (BT (l.getD (i) A8)) IK) (oS rfl (Yk.clo (PF hF) (caps:= #[]) (vr (JJ f) rfl) #[PQ j 0, .agg (updC (l.getD (i) A8)).toArray] (by simp only[List.map_toArray,List.map_cons,List.map_nil,List.append_toArray,List.cons_append,List.nil_append];exact congrArg List.toArray (CZ p (vr (.agg (updC (l.getD (i) A8)).toArray) rfl))) ((Q6 w _ j z (hQ.keep ar) hS (l.getD i A8) hF).mono ?_)))))))))))))))))
  rintro e ge ⟨z1,⟨rfl,bn⟩,hR,gf,bo⟩
  refine⟨_,rfl,?_⟩
  have hE:=Af hE bo (Nat.le_trans (Nat.le_refl _) (by omega))
  have c:=kb bo c (by omega)
  have hmp:=MapF.other hmp bo (Em (by omega))
  clear ar
  have q:=kb bo q (by omega)
  refine oA rfl (oZ ?_)
  have o:=hR.blk
  have ad:=hR.br
  have ae:=hR.tg
  have af:=hR.lg
  have d9:=OG.off ad c (by decide)
  have ea:=OG.off ae c (by decide)
  have cr:=OG.off af c (by decide)
  have ec:=OG.offMap af hmp
  have ed:=OG.off ad o (by decide)
  have ee:=OG.off ae o (by decide)
  have ct:=OG.off af o (by decide)
  have ef:=OG.apart af ad (by decide)
  have eg:=OG.apart af ae (by decide)
  clear hR
  refine tN (d8 _ _ (sk fun gg eh=>(wt (oM rfl (oS rfl (Yk.eqI (a:=((Cd z.1 (l.getD i A8)).1:Nat)) (b:=(0:Nat)) rfl rfl (BO _ _ _ _) (oZ (tN (eh _ _ ?_)))))))))
  refine AL (((Cd z.1 (l.getD i A8)).1:Nat)≠(0)) (vr (.bool (decide (((Cd z.1 (l.getD i A8)).1:Nat)≠(0)))) rfl) (fun b6=> ?_) (fun b6=> ?_)
  ·have hD:(Cd z.1 (l.getD i A8)).1≠0:=b6
   refine sk fun gh ei=>(wt (oS rfl (Yk.run (v:= .agg (refsC ((⟨[],[],[],zid,[]⟩,⟨.slice none 0 0, .slice none 0 0, .slice none 0 0⟩):Ah)).toArray) (by kernel_rfl) (oM rfl (oS rfl (Yk.storeAll s (vr (.agg (refsC ((⟨[],[],[],zid,[]⟩,⟨.slice none 0 0, .slice none 0 0, .slice none 0 0⟩):Ah)).toArray) rfl) c (by simp only[List.size_toArray,Ao]) (AC (Ao _) IJ) (Br (x:=((⟨[],[],[],zid,[]⟩,⟨.slice none 0 0, .slice none 0 0, .slice none 0 0⟩):Ah)) rfl rfl rfl) fun ej cu ax gi=> ?_))))))
   have hE:=Af hE ax (Nat.le_trans bi (by omega))
   have hmp:=MapF.other hmp ax (Em (by omega))
   have q:=kb ax q (by omega)
   have o:=kb ax o (by omega)
   have ad:=OG.kept ad ax d9
   have ae:=OG.kept ae ax ea
   have af:=OG.kept af ax cr
   clear c
   have c:ej.heap[ac]? =some (.cells (refsC ((⟨[],[],[],zid,[]⟩,⟨.slice none 0 0, .slice none 0 0, .slice none 0 0⟩):Ah)).toArray 35 (0,0)):=cu;clear cu
   have gj:=bl c
   refine oA rfl (oZ (tN (ei _ _ (Am (An (AE (An (An (AE (An (Aj (fn:=Tryz.f29) _ rfl [.agg (refsC ((⟨[],[],[],zid,[]⟩,⟨.slice none 0 0, .slice none 0 0, .slice none 0 0⟩):Ah)).toArray,NI ((Cd z.1 (l.getD i A8)).1)] (.tuple #[.agg (refsC ((⟨[],[],[],zid,[]⟩,⟨.slice none 0 0, .slice none 0 0, .slice none 0 0⟩):Ah)).toArray,NI ((Cd z.1 (l.getD i A8)).1)]) rfl ⟨ResF.row s c (N9).choose_spec rfl (AC (Ao _) IJ),rfl,trivial⟩ ?_)))))))))))
   have hAp:=EV h0c (hrun.trans (G6 hlt hU hD)) hD
   exact⟨⟨.slice none 0 0, .slice none 0 0, .slice none 0 0⟩,by rw[hAp],by rw[hAp];exact⟨OG.nil _ _ _ _ _,OG.nil _ _ _ _ _,OG.nil _ _ _ _ _⟩,hE⟩
  have hD:(Cd z.1 (l.getD i A8)).1=0:=by simpa using b6
  refine Aq (tN (d7 _ _ (wt (oS rfl (Yk.fieldAt HK p (oS rfl (Yk.cell1 EA rfl (vr (PQ j 35) rfl) (Al o (show(refsC z1)[35]? =some (z1.2.log:Value)from Bn z1)) (oS rfl (Yk.loadAll (vr (PQ aq 0) rfl) q (JK).choose_spec rfl (AC (BT (l.getD (i) A8)) IK) (oM rfl (oS rfl (Yk.build2 (vr (.agg (updC (l.getD (i) A8)).toArray) rfl) T2 (fun w=>(PK _ (by rw[List.size_toArray];exact BT _) _ w).trans (by rw[List.toList_toArray,QE])) (oS rfl (Yk.lit1G (a:=(entOf (l.getD i A8) note)) (enc:=entC) (vr (.agg (entC (entOf (l.getD i A8) note)).toArray) rfl) (Bp _) Ou fun el em cv ay=> ?_))))))))))))))
  have hE:=hE.trans ay
  have c:=eb ay c
  have hmp:=hmp.keep ay
  have o:=eb ay o
  have ad:=ad.keep ay
  have ae:=ae.keep ay
  have af:=af.keep ay
  refine oS rfl (Yk.appendRG _ _ w.heap.size _ 104 EA wr30_ig50.choose_spec.1 wr30_ig50.choose_spec.2 EA (z1.1.log) ([(entOf (l.getD i A8) note)]) (OG.of af (vr z1.2.log rfl)) (RG.of cv (vr el rfl)) (fun _ _=>C7) (by have h_:=congrArg (fun r=>r.log.length) bn;simp only[Jh]at h_;simp only[List.length_cons,List.length_nil];omega) (by have h_:=congrArg (fun r=>r.log.length) bn;simp only[Jh]at h_;simp only[List.length_cons,List.length_nil];omega) hE.size fun au en bf av=> ?_)
  have av:Grew em en z1.2.log au:=av
  have eo:OB au j:=AU av ct (bl o)
  have hE:=AZ hE av af.2 (Nat.le_refl _)
  have c:=AN c av cr
  have hmp:=MapF.grew hmp av ec
  have o:=AN o av ct
  have ad:=Dr ad av ef
  have ae:=Dr ae av eg
  clear cv
  clear af
  refine oS rfl (Yk.fieldAt HK p (oS rfl (Yk.storeC (i:=35) (v:=au) (vr (PQ j 35) rfl) (vr au rfl) o (by rw[Ao];decide) Gp (RG.one (RG.ofOwn bf)).1 (RG.one (RG.ofOwn bf)).2 fun bg cw a6 gk=> ?_)))
  have hE:=Af hE a6 (Nat.le_trans (Nat.le_refl _) (by omega))
  have c:=kb a6 c (by omega)
  have hmp:=MapF.other hmp a6 (Em (by omega))
  have ad:=OG.kept ad a6 ed
  have ae:=OG.kept ae a6 ee
  have bf:=OG.kept bf a6 eo
  clear o
  have o:bg.heap[j]? =some (.cells (refsC ((⟨z1.1.branches,z1.1.tags,z1.1.head,z1.1.at_,(z1.1.log)++ [(entOf (l.getD i A8) note)]⟩,⟨z1.2.branches,z1.2.tags,au⟩):Ah)).toArray 35 (0,0)):=AG cw (D1 z1 au ((z1.1.log)++ [(entOf (l.getD i A8) note)]));clear cw
  have gl:=bl o
  refine oZ (bN (tN (dw _ _ (wt (oS rfl (Yk.bin (xv:=NI i) (yv:=NI 1) ap rfl rfl (AA _ _ _ (by omega)) (oM rfl (A3 [(0, .agg (refsC z0).toArray),(1,lv),(2,St (note)),(3,PQ j 0),(6,PQ ac 0),(8, .map (some gm)),(10,PQ aq 0),(11,NI (BI (l.getD i A8))),(12,NI ((Cd z.1 (l.getD i A8)).1)),(35,lv),(36,NI l.length),(37,NI ((i)+(1)))] ⟨T0,T1,T2,p,s,T8,rfl,rfl,rfl,a4,a5,rfl,trivial⟩ fun ep ⟨T0,T1,T2,p,s,T8,gn,go,gp,a4,a5,ap,_⟩=> ?_))))))))
  have b7:OG w.heap.size 60 33 nmdC bg z1.2.branches (z1.1.branches):=ad
  have b8:OG w.heap.size 60 33 nmdC bg z1.2.tags (z1.1.tags):=ae
  have bp:OG w.heap.size 50 67 entC bg au ((z1.1.log)++ [(entOf (l.getD i A8) note)]):=bf
  have hP:AppAt w bg j ((⟨z1.1.branches,z1.1.tags,z1.1.head,z1.1.at_,(z1.1.log)++ [(entOf (l.getD i A8) note)]⟩,⟨z1.2.branches,z1.2.tags,au⟩):Ah):=⟨hE,by omega,o,b7,b8,bp,(OG.off b7 o (by decide)),(OG.off b8 o (by decide)),(OG.off bp o (by decide)),OG.apart bp b7 (by decide),OG.apart bp b8 (by decide)⟩
  have cx:Ei (Fk (Cd z.1 (l.getD i A8)).2 (entOf (l.getD i A8) note)):=by have h_:=M1 (y:=(l.getD i A8)) hS;exact⟨h_.br,h_.tg,h_.bl,h_.tl⟩
  have hlog2:(Fk (Cd z.1 (l.getD i A8)).2 (entOf (l.getD i A8) note)).log.length≤64+(i+1):=by simp only[Fk,List.length_append,List.length_cons,List.length_nil,Jh];omega
  rw[←bn]at cx hlog2
  refine tN (And.intro ⟨i+1,((⟨z1.1.branches,z1.1.tags,z1.1.head,z1.1.at_,(z1.1.log)++ [(entOf (l.getD i A8) note)]⟩,⟨z1.2.branches,z1.2.tags,au⟩):Ah),T0,T1,T2,p,s,T8,a4,a5,ap,hE,c,hmp,hP,by omega,(hrun.trans (JN hlt hU hD)).trans (by rw[bn];rfl),cx,hlog2,trivial⟩ ?_)
  show l.length-(intOf (ep 37)).toNat<l.length-(intOf (ds 37)).toNat
  rw[ap,q37]
  simp only[intOf,Int.toNat_natCast];omega
 have ag:=hQ.blk
 have an:=hQ.br
 have ao:=hQ.tg
 have cy:=hQ.lg
 have eq:=OG.off an c (by decide)
 have er:=OG.off ao c (by decide)
 have es:=OG.off an ag (by decide)
 have et:=OG.off ao ag (by decide)
 clear hQ
 refine AP (Ar (Ar (Az (tN (dq _ _ (sk fun gq eu=>(wt (oS rfl (Yk.fieldAt HK p (oS rfl (Yk.cell1 EA rfl (vr (PQ j 35) rfl) (Al ag (show(refsC z)[35]? =some (z.2.log:Value)from Bn z)) (oS rfl (Yk.fieldAt HK p (oS rfl (Yk.cell1 EA rfl (vr (PQ j 35) rfl) (Al ag (show(refsC z)[35]? =some (z.2.log:Value)from Bn z)) (oS rfl (Yk.lenRG EA (RG.of (RG.ofOwn cy) (vr z.2.log rfl)) (oS rfl (Yk.bin (xv:= .int .i64 ((((z.1.log).length:Nat):Int))) (yv:= .int .i64 (((64:Nat):Int))) rfl rfl rfl (DL _ ((((z.1.log).length:Nat):Int)) (((64:Nat):Int)) (by omega)) (oS rfl (Yk.maxNI (n:=z.1.log.length) (m:=64) (vr (.int .i64 ((((((z.1.log).length:Nat):Int))-(((64:Nat):Int))):Int)) rfl) (vr (NI 0) rfl) (oS rfl (Yk.sliceLoW EA MM (vr z.2.log rfl) (RG.ofOwn cy) (vr (NI (z.1.log.length-64)) rfl) (by omega) fun cz c0 ha188=> ?_)))))))))))))))))))))))
 have hz_:=hE.size
 refine oS rfl (Yk.callA1 JU (vr cz rfl) ((G5 _ cz ((z.1.log).drop (z.1.log.length-64)) c0 (by rw[List.length_drop];omega)).mono ?_))
 rintro e gr ⟨ak,rfl,ah,a7⟩
 refine⟨_,rfl,?_⟩
 have hE:=hE.trans a7
 have c:=eb a7 c
 have hmp:=hmp.keep a7
 have ag:=eb a7 ag
 have an:=an.keep a7
 have ao:=ao.keep a7
 have ah:=OG.low ah hz_
 have ew:=OG.off ah ag (by decide)
 have ex:=OG.off ah c (by decide)
 refine oS rfl (Yk.fieldAt HK p (oS rfl (Yk.storeC (i:=35) (v:=ak) (vr (PQ j 35) rfl) (vr ak rfl) ag (by rw[Ao];decide) Gp (RG.one (RG.ofOwn ah)).1 (RG.one (RG.ofOwn ah)).2 fun ey c1 a8 gs=> ?_)))
 have hE:=Af hE a8 (Nat.le_trans (Nat.le_refl _) (by omega))
 have c:=kb a8 c (by omega)
 have hmp:=MapF.other hmp a8 (Em (by omega))
 have an:=OG.kept an a8 es
 have ao:=OG.kept ao a8 et
 clear c0
 have ah:=OG.kept ah a8 ew
 clear ag
 have ag:ey.heap[j]? =some (.cells (refsC ((⟨z.1.branches,z.1.tags,z.1.head,z.1.at_,(z.1.log).drop (z.1.log.length-64)⟩,⟨z.2.branches,z.2.tags,ak⟩):Ah)).toArray 35 (0,0)):=AG c1 (D1 z ak ((z.1.log).drop (z.1.log.length-64)));clear c1
 have gt:=bl ag
 refine oZ (tN (eu _ _ (sk fun gu ez=>(wt (oS rfl (Yk.loadAll p ag (N9).choose_spec rfl (AC (Ao ((⟨z.1.branches,z.1.tags,z.1.head,z.1.at_,(z.1.log).drop (z.1.log.length-64)⟩,⟨z.2.branches,z.2.tags,ak⟩):Ah)) IJ) (oS rfl (Yk.storeAll s (vr (.agg (refsC ((⟨z.1.branches,z.1.tags,z.1.head,z.1.at_,(z.1.log).drop (z.1.log.length-64)⟩,⟨z.2.branches,z.2.tags,ak⟩):Ah)).toArray) rfl) c (by simp only[List.size_toArray,Ao]) (AC (Ao _) IJ) (Br (x:=((⟨z.1.branches,z.1.tags,z.1.head,z.1.at_,(z.1.log).drop (z.1.log.length-64)⟩,⟨z.2.branches,z.2.tags,ak⟩):Ah)) (RG.one (RG.ofOwn an)).2 (RG.one (RG.ofOwn ao)).2 (RG.one (RG.ofOwn ah)).2) fun e0 c2 bh gv=> ?_))))))))
 have hE:=Af hE bh (Nat.le_trans bi (by omega))
 have hmp:=MapF.other hmp bh (Em (by omega))
 have an:=OG.kept an bh eq
 have ao:=OG.kept ao bh er
 have ah:=OG.kept ah bh ex
 clear c
 have c:e0.heap[ac]? =some (.cells (refsC ((⟨z.1.branches,z.1.tags,z.1.head,z.1.at_,(z.1.log).drop (z.1.log.length-64)⟩,⟨z.2.branches,z.2.tags,ak⟩):Ah)).toArray 35 (0,0)):=c2;clear c2
 have gw:=bl c
 refine oA rfl (oZ (tN (ez _ _ (Am (Aj (fn:=Tryz.f29) _ rfl [.agg (refsC ((⟨z.1.branches,z.1.tags,z.1.head,z.1.at_,(z.1.log).drop (z.1.log.length-64)⟩,⟨z.2.branches,z.2.tags,ak⟩):Ah)).toArray,NI 0] (.tuple #[.agg (refsC ((⟨z.1.branches,z.1.tags,z.1.head,z.1.at_,(z.1.log).drop (z.1.log.length-64)⟩,⟨z.2.branches,z.2.tags,ak⟩):Ah)).toArray,NI 0]) rfl ⟨ResF.row s c (N9).choose_spec rfl (AC (Ao _) IJ),rfl,trivial⟩ ?_)))))
 have hAp:=JO h0c (hrun.trans (Lq (show l.length≤i by omega)))
 exact⟨⟨z.2.branches,z.2.tags,ak⟩,by rw[hAp];rfl,by rw[hAp];exact⟨an,ao,ah⟩,hE⟩
open Go.RowKit
section
variable {P : Program} {l : List Oper} {kill : Nat → List Nat} {C : Nat → World → Prop} {R : Nat → World → World → Prop} {Φ : Nat → Bv} {a0 : Act}
theorem Ov{z:Nat}(g:FI l z){k:Nat}(ht:∀i,k≤i→i<l.length→∀m,k≤m→m<i→((A9 l []).getD i 0).testBit m=true){Q:Exit→Act→World→Prop}:
    ∀(fuel m:Nat) (listed:Array Bool) (a:Act) (w:World),listed.size=l.length→(∀i,On listed i↔i<m)→k≤m→m≤l.length→l.length≤m+fuel→wpList P l.toArray Q (l.drop m) a w→wpAny P .any l.toArray Q fuel listed a w:=by
  have noReady:∀(m:Nat) (listed:Array Bool),listed.size=l.length→(∀i,On listed i↔i<m)→l.length≤m→Region.ready .any l.toArray listed= []:=by
    intro m listed hsz hon hm
    cases hr:Region.ready .any l.toArray listed with
    | nil=>rfl
    | cons x xs=>
      exfalso
      have hmem:x∈Region.ready .any l.toArray listed:=by rw[hr];simp
      obtain⟨h1,o,ho,_⟩:=mem_ready.1 hmem
      have hx:x<l.length:=by simpa using (Array.getElem?_eq_some_iff.1 ho).1
      have h2:=(hon x).2 (by omega)
      have hx' :x<listed.size:=h2.lt
      unfold On at h2
      simp[hx']at h1 h2
      rw[h1]at h2
      cases h2
  intro fuel
  induction fuel with
  | zero=>
    intro m listed a w hsz hon hk hm hf hw
    rw[List.drop_of_length_le (by omega)]at hw
    exact⟨noReady m listed hsz hon (by omega),hw⟩
  | succ fuel ih=>
    intro m listed a w hsz hon hk hm hf hw
    by_cases hml:m=l.length
    · have hr:=noReady m listed hsz hon (by omega)
      rw[List.drop_of_length_le (by omega)]at hw
      exact⟨fun _=>hw,fun i hi=>by rw[hr]at hi;cases hi⟩
    · have hlt:m<l.length:=by omega
      have hoff:¬On listed m:=fun x=>by have:=(hon m).1 x;omega
      have hI:Inv l (fun _=> []) (fun _ _=>True) (fun _ _=>True) (fun _ _ _=>True) a listed a w:=
        ⟨hsz,fun i o ho hi e he hb=>(hon _).2 (by have:=g.back i o ho e he hb;have:=(hon i).1 hi;omega),rfl,rfl,fun _ _ _=>trivial,trivial,fun _ _=>rfl,fun _ _ _ _ _ _ _ _=>trivial⟩
      refine⟨fun hr=> ?_,fun i hi=> ?_⟩
      · exfalso
        have ho:l[m]? =some l[m]:=List.getElem?_eq_getElem hlt
        have:m∈Region.ready .any l.toArray listed:=by
          refine mem_ready.2 ⟨?_,l[m],by rw[List.getElem?_toArray];exact ho,fun e he hb=>(hon _).2 (g.back m _ ho e he hb)⟩
          have hm' :m<listed.size:=by omega
          unfold On at hoff
          simp[hm']at hoff ⊢
          exact hoff
        rw[hr]at this
        cases this
      · obtain⟨h1,o,ho,hall⟩:=mem_ready.1 hi
        have ho' :l[i]? =some o:=by simpa using ho
        have hil:i<l.length:=(List.getElem?_eq_some_iff.1 ho').1
        have hno:¬On listed i:=fun x=>by
          have hx:i<listed.size:=by omega
          unfold On at x
          simp[hx]at h1 x
          rw[h1]at x
          cases x
        have him:i=m:=by
          by_cases h2:i<m
          · exact absurd ((hon i).2 h2) hno
          · by_cases h3:i=m
            · exact h3
            · exact absurd (hI.maskReady ho' (fun e he hb=>hall e he hb) (ht i (by omega) hil m hk (by omega))) hoff
        subst him
        rw[List.drop_eq_getElem_cons hlt]at hw
        obtain rfl:l[i]=o:=by rw[List.getElem?_eq_getElem hlt]at ho';exact Option.some.inj ho'
        have nxt:∀a' w',wpList P l.toArray Q (l.drop (i+1)) a' w' →wpAny P .any l.toArray Q fuel (listed.setIfInBounds i true) a' w' :=fun a' w' hw' =>
          ih (i+1) _ a' w' (by simpa using hsz) (fun j=>by rw[on_set (by omega),hon j];omega) (by omega) (by omega) (by omega) hw'
        unfold wpOp
        simp only[List.getElem?_toArray,ho']
        unfold wpList at hw
        split at hw
        · rename_i hwt
          rw[if_pos hwt]
          exact hw.imp (fun h=>Oper.wp_mono nxt h) (fun h=>h)
        · rename_i hwt
          rw[if_neg hwt]
          exact nxt _ _ hw
end
def Qc(l:List Oper)(oe:Oper)(e:Nat):Bool:=
  (List.range l.length).all fun j=>match l[j]? with
    | some o=>Nat.beq j e||(o.after.any (fun x=>Region.binds .any x&&x.on==e)||(oe.apart l.toArray o||((A9 l []).getD e 0).testBit j))
    | none=>true
def KI(l:List Oper)(k e:Nat):Bool:=Nat.blt e k&&(List.range l.length).all fun i=>Nat.blt i k||(List.range i).all fun m=>Nat.beq m e||((A9 l []).getD i 0).testBit m
theorem Ow{l:List Oper}{k e:Nat}(h:KI l k e=true):e<k∧∀i,k≤i→i<l.length→∀m,m<i→m≠e→((A9 l []).getD i 0).testBit m=true:=by
  unfold KI at h
  rw[Bool.and_eq_true]at h
  refine⟨Nat.le_of_ble_eq_true h.1,fun i hi hl m hm hne=> ?_⟩
  have h1:=List.all_eq_true.1 h.2 i (by simpa using hl)
  rcases Bool.or_eq_true _ _▸h1 with h2 | h2
  · have:=Nat.le_of_ble_eq_true h2
    omega
  · have h3:=List.all_eq_true.1 h2 m (by simpa using hm)
    rcases Bool.or_eq_true _ _▸h3 with h4 | h4
    · exact absurd (Nat.eq_of_beq_eq_true h4) hne
    · exact h4
section
variable {P : Program} {l : List Oper} {Φ : Nat → Bv} {a0 : Act} {w0 : World} {Q : Exit → Act → World → Prop} {e k : Nat} {oe : Oper}
theorem Ji{dst:Option Tmp}{t:Tmp}{n:Nat}{ty:TypeId}{pos:String}{af:Array Edge}(he:l[e]? =some ⟨dst, .extract (.tmp t) n,ty,pos,af,none⟩){K:Act→World→Prop}{a:Act}{w:World} 
    (h:wpOp P l.toArray (fun _ _ _=>False) e K a w):∃x,Yields P l.toArray ⟨dst, .extract (.tmp t) n,ty,pos,af,none⟩ x a∧K (a.put dst x) w:=by
  unfold wpOp at h
  simp only[List.getElem?_toArray,he,Region.wanted,if_true]at h
  rcases h with h | ⟨-,-,-,h⟩
  · unfold Oper.wp at h
    have hr:∀v:Value,(∃x,∀w:World,(Instr.extract v n).run P w = .ok x w)∨∀w:World,∃s,(Instr.extract v n).run P w = .halt (.stuck s) w:=by
      intro v
      cases v with
      | tuple vs=>
        cases hx:vs[n]? with
        | some x=>exact .inl ⟨x,fun w=>by simp[Instr.extract,hx]⟩
        | none=>exact .inr fun w=>⟨_,by simp only[Instr.extract,hx];rfl⟩
      | _=>exact .inr fun w=>⟨_,by simp only[Instr.extract];rfl⟩
    rcases hr (a.eval (.tmp t))with ⟨x,hx⟩ | hx
    · have he:∀w:World,(execOp a.eval ⟨dst, .extract (.tmp t) n,ty,pos,af,none⟩).run P w = .ok (.value x) w:=fun w=>by
        unfold execOp
        simp only[Sem.run_bind,hx,Result.andThen_ok,Sem.run_pure]
      rw[he]at h
      exact⟨x, .inl ⟨rfl,he⟩,h⟩
    · obtain⟨s,hs⟩:=hx w
      have he:(execOp a.eval ⟨dst, .extract (.tmp t) n,ty,pos,af,none⟩).run P w = .halt (.stuck s) w:=by
        unfold execOp
        simp only[Sem.run_bind,hs]
        rfl
      rw[he]at h
      exact h.elim
  · exact h.elim
theorem QG(g:FI l a0.tmps.size)(hsel:Region.noSelect l.toArray=true){d t:Tmp}{n:Nat}{ty:TypeId}{pos:String}{af:Array Edge}(he:l[e]? =some ⟨some d, .extract (.tmp t) n,ty,pos,af,none⟩) 
    (hte:KI l k e=true) (hfr:Qc l ⟨some d, .extract (.tmp t) n,ty,pos,af,none⟩ e=true) (hk:k≤l.length) (hst:∀i,Stab Ext (Φ i))
    (hs:∀i o,l[i]? =some o→i<k→E7 P l (fun _=>Ext w0) (fun _=>Ext) Φ a0.tmps i o) (hQp:∀v c a w,Q (.panic c) (a.put (some d) v) w→Q (.panic c) a w)
    (hQ:∀listed a' w',(∀i,On listed i↔i<k)→Inv l (fun _=> []) (fun _=>Ext w0) (fun _ _=>True) Φ a0 listed a' w' →wpList P l.toArray Q (l.drop k) a' w'):
    ∀(fuel:Nat) (listed:Array Bool) (a:Act) (w:World),(listed.toList.filter (!·)).length=fuel→(∀i,On listed i→i<k)→e∉Region.ready .any l.toArray listed→Inv l (fun _=> []) (fun _=>Ext w0) (fun _ _=>True) Φ a0 listed a w→wpAny P .any l.toArray Q fuel listed a w:=by
  obtain⟨hek,hte⟩:=Ow hte
  have ht:∀i,k≤i→i<l.length→∀m,k≤m→m<i→((A9 l []).getD i 0).testBit m=true:=fun i hi hl m hkm hm=>hte i hi hl m hm (by omega)
  have hkl:CX l (fun _=> [])=true:=by unfold CX;simp
  have hC:∀n m,n<l.length→m<l.length→n≠m→((A9 l []).getD n 0).testBit m=false→∀w w',Ext w0 w→Ext w w' →Ext w0 w' :=fun _ _ _ _ _ _ _ _ hc hr=>hc.trans hr
  have hE:∀n listed (w w' :World),n<l.length→listed.size=l.length→¬On listed n→(∀i k,On listed i∨i=n→((A9 l []).getD i 0).testBit k=true→On listed k)→True→Ext w w' →True:=fun _ _ _ _ _ _ _ _ _ _=>trivial
  have hΦ:∀n i,n<l.length→i<l.length→i∉([]:List Nat)→i≠n→((A9 l []).getD i 0).testBit n=false→∀v w w',Φ i v w→Ext w w' →Φ i v w' :=fun _ i _ _ _ _ _ v w w' =>hst i v w w'
  have hRr:∀(n:Nat) o (w:World),l[n]? =some o→o.guard.isSome=true→Ext w w:=fun _ _ w _ _=>Ext.refl w
  intro fuel
  induction fuel using Nat.strongRecOn with
  | _ fuel ih=>
  intro listed a w hf hoff hre h
  by_cases hfull:∀i,i<k→On listed i
  · have hon:∀i,On listed i↔i<k:=fun i=>⟨hoff i,hfull i⟩
    refine Ov g ht fuel k listed a w h.size hon (Nat.le_refl _) hk ?_ (hQ listed a w hon h)
    have f:=List.take_append_drop k listed.toList
    rw[←f,List.filter_append,List.length_append]at hf
    have p:(listed.toList.drop k).filter (!·)=listed.toList.drop k:=List.filter_eq_self.2 fun b hb=>by
      obtain⟨j,hj,rfl⟩:=List.getElem_of_mem hb
      rw[List.getElem_drop]
      have hno:¬On listed (k+j):=fun x=>by have:=hoff _ x;omega
      rw[List.length_drop]at hj
      have hlt:k+j<listed.size:=by rw[←Array.length_toList];omega
      unfold On at hno
      simp[hlt]at hno
      simp[hno]
    rw[p,List.length_drop]at hf
    have hz:listed.toList.length=l.length:=by rw[Array.length_toList];exact h.size
    omega
  · have hunl:∀i,i<l.length→¬On listed i→listed.getD i true=false:=fun i hi hno=>by
      have hi' :i<listed.size:=by rw[h.size];exact hi
      unfold On at hno
      simp[hi']at hno ⊢
      exact hno
    have hlow:∃j,j<k∧j≠e∧¬On listed j:=by
      refine Classical.byContradiction fun hn=>hfull fun i hi=>Classical.byContradiction fun hx=> ?_
      have hall:∀j,j<k→j≠e→On listed j:=fun j hj hje=>Classical.byContradiction fun hx=>hn ⟨j,hj,hje,hx⟩
      have hie:i=e:=Classical.byContradiction fun hne=>hx (hall i hi hne)
      subst hie
      refine hre (mem_ready.2 ⟨hunl i (by omega) hx,_,by rw[List.getElem?_toArray];exact he,fun x hxm hb=> ?_⟩)
      have:=g.back i _ he x hxm hb
      exact hall x.on (by omega) (by omega)
    obtain⟨j0,hj0,hj0e,hoff0⟩:=hlow
    have hpos:∀(L:Array Bool) i,L.size=l.length→i<l.length→L.getD i true=false→∃m,(L.toList.filter (!·)).length=m+1∧((L.setIfInBounds i true).toList.filter (!·)).length=m:=fun L i hL hi hx=>by
      have hi' :i<L.size:=by omega
      have:=DX L.toList i (by simp[hi']at hx;simp[hi',hx])
      exact⟨_,this.symm,by rw[Array.toList_setIfInBounds]⟩
    obtain⟨f0,hf0,-⟩:=hpos listed j0 h.size (by omega) (hunl j0 (by omega) hoff0)
    obtain rfl:fuel=f0+1:=by omega
    refine⟨fun hr=> ?_,fun i hi=> ?_⟩
    · exfalso
      have full:∀i,i<l.length→On listed i:=by
        intro i
        induction i using Nat.strongRecOn with
        | _ i ih2=>
          intro hi
          refine Classical.byContradiction fun hno=> ?_
          have ho:l[i]? =some l[i]:=List.getElem?_eq_getElem hi
          have:i∈Region.ready .any l.toArray listed:=mem_ready.2 ⟨hunl i hi hno,l[i],by rw[List.getElem?_toArray];exact ho,fun x hx hb=>by
            have hlt:=g.back i _ ho x hx hb
            exact ih2 x.on hlt (by omega)⟩
          rw[hr]at this
          cases this
      exact hoff0 (full j0 (by omega))
    · have hie:i≠e:=fun x=>hre (x▸hi)
      obtain⟨h1,o,ho,hall0⟩:=mem_ready.1 hi
      have ho' :l[i]? =some o:=by simpa using ho
      have hilt:i<l.length:=(List.getElem?_eq_some_iff.1 ho').1
      have hil:i<listed.size:=by rw[h.size];exact hilt
      have hno:¬On listed i:=by
        unfold On
        simp[hil]at h1 ⊢
        exact h1
      have hall:∀x∈o.after,Region.binds .any x=true→On listed x.on:=fun x hx hb=>hall0 x hx hb
      have hik:i<k:=by
        by_cases h2:i<k
        · exact h2
        · exact absurd (h.maskReady ho' hall (hte i (by omega) hilt j0 (by omega) hj0e)) hoff0
      obtain⟨f1,hf1,hcnt⟩:=hpos listed i h.size hilt h1
      obtain rfl:f1=f0:=by omega
      refine h.step g hkl hC hE hΦ hRr ho' hno hall (hs i o ho' hik) fun a' w' h' => ?_
      have hoff' :∀j,On (listed.setIfInBounds i true) j→j<k:=fun j hx=>by
        rcases(on_set hil).1 hx with rfl | h3
        · exact hik
        · exact hoff j h3
      by_cases hre' :e∈Region.ready .any l.toArray (listed.setIfInBounds i true)
      · obtain⟨q1,oe',hoe,hq⟩:=mem_ready.1 hre'
        have hoe' :l[e]? =some oe' :=by simpa using hoe
        obtain rfl:=Option.some.inj (he.symm.trans hoe')
        have helt:e<l.length:=by omega
        have hel:e<(listed.setIfInBounds i true).size:=by rw[h'.size];exact helt
        have hnoe:¬On (listed.setIfInBounds i true) e:=by
          unfold On
          rw[Array.getD_eq_getD_getElem?]at q1 ⊢
          rw[Array.getElem?_eq_getElem hel]at q1 ⊢
          simp only[Option.getD_some]at q1 ⊢
          rw[q1]
          decide
        have hw:=h'.step g hkl hC hE hΦ hRr he hnoe (fun x hx hb=>hq x hx hb) (hs e _ he hek) (K:=fun a2 q=>Inv l (fun _=> []) (fun _=>Ext w0) (fun _ _=>True) Φ a0 ((listed.setIfInBounds i true).setIfInBounds e true) a2 q) (Q:=fun _ _ _=>False) (fun _ _ hx=>hx)
        obtain⟨x,hy,hK⟩:=Ji he hw
        obtain⟨f2,hf2,hcnt2⟩:=hpos _ e h'.size helt q1
        obtain rfl:f1=f2+1:=by omega
        refine wpAny_first hoe (Region.noSelect_spec hsel) (hQp x) f2 _ a' w' (fun j oj hoj hje hjun hjno=> ?_) hre' hy (ih f2 (by omega) _ _ _ hcnt2 (fun j hx=> ?_) (fun hx=> ?_) hK)
        · have hoj' :l[j]? =some oj:=by simpa using hoj
          have hjl:j<l.length:=(List.getElem?_eq_some_iff.1 hoj').1
          have hfj:=List.all_eq_true.1 hfr j (by simpa using hjl)
          rw[hoj']at hfj
          simp only[Bool.or_eq_true]at hfj
          rcases hfj with h3 | h3 | h3 | h3
          · exact absurd (Nat.eq_of_beq_eq_true h3) hje
          · obtain⟨y,hy1,hy2⟩:=Array.any_eq_true'.1 h3
            simp only[Bool.and_eq_true,beq_iff_eq]at hy2
            exact absurd hy2.2 (hjno y hy1 hy2.1)
          · exact h3
          · have hon:=h'.maskReady he (fun x hx hb=>hq x hx hb) h3
            have hjl' :=hon.lt
            unfold On at hon
            rw[Array.getD_eq_getD_getElem?,Array.getElem?_eq_getElem hjl']at hon hjun
            simp only[Option.getD_some]at hon hjun
            rw[hon]at hjun
            cases hjun
        · rcases(on_set hel).1 hx with rfl | h3
          · exact hek
          · exact hoff' j h3
        · have:=(mem_ready.1 hx).1
          simp[hel]at this
      · exact ih f1 (by omega) _ _ _ hcnt hoff' hre' h'
end
section
variable {P : Program} {n : Nat} {ρ : Au} {w : World} {Q : Ce}
theorem Kr{l r:List Oper}(e k0:Nat)(Φs:List Bv){id:Nat}(hm:P.follows .mixedOrders=true)(ds:List Tmp)(hg:CQ l n=true){d t:Tmp}{m:Nat}{ty:TypeId}{pos:String}{af:Array Edge}(he:l[e]? =some ⟨some d, .extract (.tmp t) m,ty,pos,af,none⟩)(hsel:Region.noSelect l.toArray=true) 
    (hn:KI l k0 e=true) (hfr:Qc l ⟨some d, .extract (.tmp t) m,ty,pos,af,none⟩ e=true) (haf:af.any (fun x=>Region.binds .any x)=true) (f:Nat.ble Φs.length k0=true) (hds:slotsW l=ds) (hr:(l.drop k0)=r) (hlt:Nat.blt k0 l.length=true) (hst:AllStab Ext Φs)
    (hQp:∀c ρ ρ' w,Q (.panic c) ρ w→Q (.panic c) ρ' w)
    (hs:StepsFC P l k0 (fun _=>Ext w) (fun _=>Ext) (Bo Φs) ρ 0 l)
    (hQ:∀(ρ' :Au) w1,Ext w w1→EndF ds ρ ρ' →BY l (fun _=> []) (Bo Φs) ρ' w1 ds→Cn P l.toArray n Q r ρ' w1):Cf P n (.region id l.toArray true) Q ρ w:=by
  intro a ha
  obtain⟨T,df⟩:=a
  have hz:T.size=n:=ha.size
  subst hz
  have b:k0<l.length:=Nat.le_of_ble_eq_true hlt
  have g:=E0 hg
  have hno0:∀i,¬On (Array.replicate l.toArray.size false) i:=fun i h=>by
    unfold On at h
    rw[Array.getD_eq_getD_getElem?,Array.getElem?_replicate]at h
    split at h <;> simp at h
  refine wp_region_any hm (QG (a0:= { tmps:=T,defers:=df }) (w0:=w) (Φ:=Bo Φs) g hsel he hn hfr (Nat.le_of_lt b) (fun i=>hst.get Φs i) (fun i o ho hi=> ?_) (fun v c a' w' hx=> ?_) (fun listed a' w' hon h=> ?_) _ _ _ _ (by simp) (fun i h=>absurd h (hno0 i)) ?_ ?_)
  · have hst:=StepsFC.get l 0 hs i o ho (by omega)
    rw[Nat.zero_add]at hst
    have h2:=StepsF.ok (P:=P) (l:=l) (C:=fun _=>Ext w) (R:=fun _=>Ext) (Φ:=Bo Φs) (T:=T) ha.get [o] i ⟨hst,trivial⟩
    exact h2.1
  · obtain⟨ρ',hf,hq⟩:=hx
    exact⟨fun t=>a'.tmps.getD t undef,⟨by have:=hf.size;simpa [Act.put] using this,by have:=hf.defers;simpa [Act.put] using this,fun _=>rfl⟩,hQp _ _ _ _ hq⟩
  · have hw:∀d k,CN l d l.length=some k→(List.range l.length).all (fun n=> !([]:List Nat).contains k)=true→Bo Φs k (a'.tmps.getD d undef) w' :=fun d k hk hall=>by
      obtain⟨h1,⟨o,ho,hd'⟩,h3⟩:=Dp _ hk
      by_cases hkL:k0≤k
      · have e:Bo Φs k=fun _ _=>True:=by
          have:=Nat.le_of_ble_eq_true f
          unfold Bo
          rw[List.getD_eq_getElem?_getD,List.getElem?_eq_none (by omega)]
          rfl
        rw[e]
        trivial
      exact h.new d k o ho hd' ((hon k).2 (by omega)) (fun k' o' hkk ho' hd'' _=>h3 k' o' hkk (List.getElem?_eq_some_iff.1 ho').1 ho' hd'') (fun n hn=>by simp)
    have hget:∀t,a'.tmps.getD t undef=if t∈ds then a'.tmps.getD t undef else ρ t:=fun t=>by
      by_cases hn:t∈ds
      · rw[if_pos hn]
      · rw[if_neg hn,←ha.get]
        exact h.old t fun k o ho hd _=>hn (by
          rw[←hds]
          unfold slotsW
          rw[List.mem_eraseDups,List.mem_filterMap]
          exact⟨o,List.mem_of_getElem? ho,hd⟩)
    have hcl:=h.cls k0 b (fun x=>by have:=(hon k0).1 x;omega)
    have hend:EndF ds ρ (fun t=>a'.tmps.getD t undef):=⟨fun t ht=>by rw[hget t,if_neg (by simpa using ht)]⟩
    have:=hQ (fun t=>a'.tmps.getD t undef) w' hcl hend (DF hw ds)
    rw[hr]
    exact this a' ⟨h.tmps,h.defers.trans ha.defers,fun t=>rfl⟩
  · intro hx
    obtain⟨-,o,ho,hall⟩:=mem_ready.1 hx
    obtain rfl:=Option.some.inj (he.symm.trans (by simpa using ho))
    obtain⟨x,j,p⟩:=Array.any_eq_true'.1 haf
    exact hno0 _ (hall x j p)
  · exact⟨Array.size_replicate,fun i o _ h=>absurd h (hno0 i),rfl,rfl,fun n hn _=>(Below.refl _ _).drew,trivial,fun t _=>rfl,fun t k o _ _ h=>absurd h (hno0 k)⟩
end
open Go.RowKit
set_option maxRecDepth 100000
theorem Id{w:World}{z:Ah}{lv:Value}{l:List Ba}{note:Bs}{R:A0}{n:Nat}(hA:Db z.1 l note=(n,R))(hm:RefsAt w z)(hL:By z.1)(hr:RG 66 updC w lv l)(hl:l.length≤1000)(hln:∀u∈l,u.name.length≤9223372036854775807):
  Calls Tryz.prog 29 #[.agg (refsC z).toArray,lv,St note] w fun e w' =>∃v,e = .returned (.tuple #[.agg (refsC (R,v)).toArray,NI n])∧RefsOw w.heap.size w' (R,v)∧Ext w w' :=by
 have h:=Ma w z hm hL lv l hr hl hln note
 rw[hA]at h
 exact h
theorem QH{w:World}{z:Ah}{i:BS}{n:Nat}(hA:Dc z.1=(i,n))(hm:RefsAt w z)(hL:By z.1):
  Calls Tryz.prog 31 #[.agg (refsC z).toArray,St []] w fun e w' =>e = .returned (.tuple #[AB i.1,NI n])∧Ext w w' :=by
 have h:=Og w z hm hL
 rw[hA]at h
 exact h
theorem PL:By Dx.1:=⟨by decide,by decide,by decide,by decide,by decide,by decide⟩
theorem M5:By r1:=⟨by decide,by decide,by decide,by decide,by decide,by decide⟩
theorem Ie(z0:Int)(z1:ByteArray)(c3_0 c3_1 c3_2 c3_3 c3_4 c3_5 c3_6 c3_7 c3_8 c3_9 c3_10 c3_11 c3_12 c3_13 c3_14 c3_15 c3_16 c3_17 c3_18 c3_19 c3_20 c3_21 c3_22 c3_23 c3_24 c3_25 c3_26 c3_27 c3_28 c3_29 c3_30 c3_31:Value)(w:World):(Instr.build 48 #[(0, .int .u8 z0),(1, .string z1),(3, .agg #[c3_0,c3_1,c3_2,c3_3,c3_4,c3_5,c3_6,c3_7,c3_8,c3_9,c3_10,c3_11,c3_12,c3_13,c3_14,c3_15,c3_16,c3_17,c3_18,c3_19,c3_20,c3_21,c3_22,c3_23,c3_24,c3_25,c3_26,c3_27,c3_28,c3_29,c3_30,c3_31])]).run Tryz.prog w = .ok (.agg #[.int .u8 z0, .string z1, .int .u8 0, .int .u8 0, .int .u8 0, .int .u8 0, .int .u8 0, .int .u8 0, .int .u8 0, .int .u8 0, .int .u8 0, .int .u8 0, .int .u8 0, .int .u8 0, .int .u8 0, .int .u8 0, .int .u8 0, .int .u8 0, .int .u8 0, .int .u8 0, .int .u8 0, .int .u8 0, .int .u8 0, .int .u8 0, .int .u8 0, .int .u8 0, .int .u8 0, .int .u8 0, .int .u8 0, .int .u8 0, .int .u8 0, .int .u8 0, .int .u8 0, .int .u8 0,c3_0,c3_1,c3_2,c3_3,c3_4,c3_5,c3_6,c3_7,c3_8,c3_9,c3_10,c3_11,c3_12,c3_13,c3_14,c3_15,c3_16,c3_17,c3_18,c3_19,c3_20,c3_21,c3_22,c3_23,c3_24,c3_25,c3_26,c3_27,c3_28,c3_29,c3_30,c3_31]) w:=by kernel_rfl
theorem IN(z0:UInt8)(z1:List UInt8)(z3:BS)(w:World):(Instr.build 48 #[(0,B8 z0),(1,St z1),(3,AB z3.1)]).run Tryz.prog w = .ok (.agg (B8 (z0) :: (St (z1) :: (Lib.byteCells zid.1++(Lib.byteCells z3.1)))).toArray) w:=by
 obtain⟨z3,k3⟩:=z3
 obtain⟨a3_0,a3_1,a3_2,a3_3,a3_4,a3_5,a3_6,a3_7,a3_8,a3_9,a3_10,a3_11,a3_12,a3_13,a3_14,a3_15,a3_16,a3_17,a3_18,a3_19,a3_20,a3_21,a3_22,a3_23,a3_24,a3_25,a3_26,a3_27,a3_28,a3_29,a3_30,a3_31,rfl⟩:=Fc k3
 exact Ie _ _ _ _ _ _ _ _ _ _ _ _ _ _ _ _ _ _ _ _ _ _ _ _ _ _ _ _ _ _ _ _ _ _ w
theorem Ox:AI Tryz.prog 30:=fun _ _=>by kernel_rfl
theorem Oy(c0 c1 c2 c3 c4 c5 c6 c7 c8 c9 c10 c11 c12 c13 c14 c15 c16 c17 c18 c19 c20 c21 c22 c23 c24 c25 c26 c27 c28 c29 c30 c31 c32 c33 c34 c35 c36 c37 c38 c39 c40 c41 c42 c43 c44 c45 c46 c47 c48 c49 c50 c51 c52 c53 c54 c55 c56 c57 c58 c59 c60 c61 c62 c63 c64 c65:Value)(w:World):(Instr.buildSlice 79 1 #[(0, .agg #[c0,c1,c2,c3,c4,c5,c6,c7,c8,c9,c10,c11,c12,c13,c14,c15,c16,c17,c18,c19,c20,c21,c22,c23,c24,c25,c26,c27,c28,c29,c30,c31,c32,c33,c34,c35,c36,c37,c38,c39,c40,c41,c42,c43,c44,c45,c46,c47,c48,c49,c50,c51,c52,c53,c54,c55,c56,c57,c58,c59,c60,c61,c62,c63,c64,c65])]).run Tryz.prog w = .ok (.slice (some ⟨w.heap.size,0,none⟩) 1 1) (w.alloc (.cells #[c0,c1,c2,c3,c4,c5,c6,c7,c8,c9,c10,c11,c12,c13,c14,c15,c16,c17,c18,c19,c20,c21,c22,c23,c24,c25,c26,c27,c28,c29,c30,c31,c32,c33,c34,c35,c36,c37,c38,c39,c40,c41,c42,c43,c44,c45,c46,c47,c48,c49,c50,c51,c52,c53,c54,c55,c56,c57,c58,c59,c60,c61,c62,c63,c64,c65] 48)):=by kernel_rfl
theorem Ha:∀(cs:Array Value),cs.size=66→∀w:World,(Instr.buildSlice 79 1 #[(0, .agg cs)]).run Tryz.prog w = .ok (.slice (some ⟨w.heap.size,0,none⟩) 1 1) (w.alloc (.cells cs 48))
 | ⟨c0 :: c1 :: c2 :: c3 :: c4 :: c5 :: c6 :: c7 :: c8 :: c9 :: c10 :: c11 :: c12 :: c13 :: c14 :: c15 :: c16 :: c17 :: c18 :: c19 :: c20 :: c21 :: c22 :: c23 :: c24 :: c25 :: c26 :: c27 :: c28 :: c29 :: c30 :: c31 :: c32 :: c33 :: c34 :: c35 :: c36 :: c37 :: c38 :: c39 :: c40 :: c41 :: c42 :: c43 :: c44 :: c45 :: c46 :: c47 :: c48 :: c49 :: c50 :: c51 :: c52 :: c53 :: c54 :: c55 :: c56 :: c57 :: c58 :: c59 :: c60 :: c61 :: c62 :: c63 :: c64 :: c65 :: []⟩,_,w=>Oy c0 c1 c2 c3 c4 c5 c6 c7 c8 c9 c10 c11 c12 c13 c14 c15 c16 c17 c18 c19 c20 c21 c22 c23 c24 c25 c26 c27 c28 c29 c30 c31 c32 c33 c34 c35 c36 c37 c38 c39 c40 c41 c42 c43 c44 c45 c46 c47 c48 c49 c50 c51 c52 c53 c54 c55 c56 c57 c58 c59 c60 c61 c62 c63 c64 c65 w
theorem Hb:AI Tryz.prog 29:=fun _ _=>by kernel_rfl
theorem Oz:AI Tryz.prog 31:=fun _ _=>by kernel_rfl
theorem If(z0:Int)(z1:ByteArray)(c2_0 c2_1 c2_2 c2_3 c2_4 c2_5 c2_6 c2_7 c2_8 c2_9 c2_10 c2_11 c2_12 c2_13 c2_14 c2_15 c2_16 c2_17 c2_18 c2_19 c2_20 c2_21 c2_22 c2_23 c2_24 c2_25 c2_26 c2_27 c2_28 c2_29 c2_30 c2_31:Value)(w:World):(Instr.build 48 #[(0, .int .u8 z0),(1, .string z1),(2, .agg #[c2_0,c2_1,c2_2,c2_3,c2_4,c2_5,c2_6,c2_7,c2_8,c2_9,c2_10,c2_11,c2_12,c2_13,c2_14,c2_15,c2_16,c2_17,c2_18,c2_19,c2_20,c2_21,c2_22,c2_23,c2_24,c2_25,c2_26,c2_27,c2_28,c2_29,c2_30,c2_31])]).run Tryz.prog w = .ok (.agg #[.int .u8 z0, .string z1,c2_0,c2_1,c2_2,c2_3,c2_4,c2_5,c2_6,c2_7,c2_8,c2_9,c2_10,c2_11,c2_12,c2_13,c2_14,c2_15,c2_16,c2_17,c2_18,c2_19,c2_20,c2_21,c2_22,c2_23,c2_24,c2_25,c2_26,c2_27,c2_28,c2_29,c2_30,c2_31, .int .u8 0, .int .u8 0, .int .u8 0, .int .u8 0, .int .u8 0, .int .u8 0, .int .u8 0, .int .u8 0, .int .u8 0, .int .u8 0, .int .u8 0, .int .u8 0, .int .u8 0, .int .u8 0, .int .u8 0, .int .u8 0, .int .u8 0, .int .u8 0, .int .u8 0, .int .u8 0, .int .u8 0, .int .u8 0, .int .u8 0, .int .u8 0, .int .u8 0, .int .u8 0, .int .u8 0, .int .u8 0, .int .u8 0, .int .u8 0, .int .u8 0, .int .u8 0]) w:=by kernel_rfl
theorem IO(z0:UInt8)(z1:List UInt8)(z2:BS)(w:World):(Instr.build 48 #[(0,B8 z0),(1,St z1),(2,AB z2.1)]).run Tryz.prog w = .ok (.agg (B8 (z0) :: (St (z1) :: (Lib.byteCells z2.1++(Lib.byteCells zid.1)))).toArray) w:=by
 obtain⟨z2,k2⟩:=z2
 obtain⟨a2_0,a2_1,a2_2,a2_3,a2_4,a2_5,a2_6,a2_7,a2_8,a2_9,a2_10,a2_11,a2_12,a2_13,a2_14,a2_15,a2_16,a2_17,a2_18,a2_19,a2_20,a2_21,a2_22,a2_23,a2_24,a2_25,a2_26,a2_27,a2_28,a2_29,a2_30,a2_31,rfl⟩:=Fc k2
 exact If _ _ _ _ _ _ _ _ _ _ _ _ _ _ _ _ _ _ _ _ _ _ _ _ _ _ _ _ _ _ _ _ _ _ w
set_option maxHeartbeats 1600000
theorem Hv(w:World):
  Calls Tryz.prog 12 #[] w fun e w' =>e = .returned (.bool true)∧Ext w w' :=by
 refine As (args:= []) Tryz.func12 rfl 64 rfl (Nat.le_of_ble_eq_true rfl) ?_
 intro c2 hb
 clear hb
 have hE:=Ext.refl w
 refine sk fun K1 bp=>(wt (oA rfl (oZ (tN (bp _ _ (sk fun K2 bq=>(wt (oS rfl (Yk.run (v:=AB id1.1) (by kernel_rfl) (oS rfl (Yk.build3 (vr (B8 (1)) rfl) (vr (St (([109,97,105,110]:List UInt8))) rfl) (vr (AB id1.1) rfl) (fun w=>IN 1 ([109,97,105,110]:List UInt8) id1 w) (oS rfl (Yk.alloc (cs:=(updC (⟨0,[],zid,zid⟩:Ba)).toArray) Oq fun n3 w4 c5 bc bt c6=> ?_)))))))))))))
 have hE:=hE.trans bt
 have i:=bc;clear bc
 have c7:n3<w4.heap.size:=by omega
 refine oS rfl (Yk.storeAll (vr (PQ n3 0) rfl) (vr (.agg (updC (⟨1,([109,97,105,110]:List UInt8),zid,id1⟩:Ba)).toArray) rfl) i (by simp only[List.size_toArray,BT]) (AC (BT _) IK) (Mj (x:=(⟨1,([109,97,105,110]:List UInt8),zid,id1⟩:Ba))) fun ak bd bu c8=> ?_)
 have hE:=Af hE bu (Nat.le_trans (Nat.le_refl _) (by omega))
 clear i
 have i:ak.heap[n3]? =some (.cells (updC (⟨1,([109,97,105,110]:List UInt8),zid,id1⟩:Ba)).toArray 48 (0,0)):=bd;clear bd
 have c9:=bl i
 refine oZ (tN (bq _ _ (sk fun da bv=> ?_)))
 have l:=Ext.refl ak
 have bw:=hE.size
 have db:n3<ak.heap.size:=(bl i)
 refine Kr 6 8 [Is (.agg (refsC Dx).toArray),Is (.agg (updC (⟨1,([109,97,105,110]:List UInt8),zid,id1⟩:Ba)).toArray),fun x w' =>RG 66 (updC) w' x ([(⟨1,([109,97,105,110]:List UInt8),zid,id1⟩:Ba)]),fun x w' =>∃v,x = .tuple #[.agg (refsC (r1,v)).toArray,NI 0]∧RefsOw 0 w' (r1,v),fun x w' =>∃v,x = .tuple #[.agg (refsC (r1,v)).toArray,NI 0]∧RefsOw 0 w' (r1,v),fun x w' =>∃v,x = .agg (refsC (r1,v)).toArray∧RefsOw 0 w' (r1,v),Is (NI 0),fun x w' =>∃g,x=PQ g 0∧w'.heap[g]? =some (.cells (refsC ((⟨[],[],[],zid,[]⟩,⟨.slice none 0 0, .slice none 0 0, .slice none 0 0⟩):Ah)).toArray 35 (0,0))∧ak.heap.size≤g] (by kernel_rfl) [13,14,15,16,12,17,18,2,3] (by kernel_rfl) rfl (by kernel_rfl) (by kernel_rfl) (by kernel_rfl) (by kernel_rfl) (by kernel_rfl) (by kernel_rfl) rfl rfl (DG ⟨(fun _ _ _ h k=>RG.keep h k),(fun _ _ _ ⟨v,h1,h2⟩ k=>⟨v,h1,h2.keep k⟩),(fun _ _ _ ⟨v,h1,h2⟩ k=>⟨v,h1,h2.keep k⟩),(fun _ _ _ ⟨v,h1,h2⟩ k=>⟨v,h1,h2.keep k⟩),Stab.is _,(fun _ _ _ ⟨g,h1,h2,h3⟩ k=>⟨g,h1,eb k h2,h3⟩),trivial⟩) (fun _ _ _ _ h=>h) ?bx ?hQ1002
 case bx=>
  refine⟨?_,?_,?_,?_,?_,?_,?_,?_,?_,?_,trivial⟩
  ·refine Ax (Aa rfl fun σ w1 hC h=>(Yk.callA0 Ox ((Oa _).mono ?_)))
   rintro e w2 ⟨rfl,hx⟩
   exact⟨_,rfl,hx,rfl⟩
  ·refine Ax (Aa rfl fun σ w1 hC h=> ?_)
   have e1:σ 1=PQ n3 0:=(Ae (h 1 (by decide))).trans rfl
   exact Yk.loadAll e1 (eb hC i) (JK).choose_spec rfl (AC (BT (⟨1,([109,97,105,110]:List UInt8),zid,id1⟩:Ba)) IK) ⟨Ext.refl _,rfl⟩
  ·refine Ax (Aa rfl fun σ w1 hC h=> ?_)
   have b0:=Ae (h 14 (by decide))
   exact Yk.lit1G (a:=(⟨1,([109,97,105,110]:List UInt8),zid,id1⟩:Ba)) (enc:=updC) b0 (BT _) Ha fun v w2 h hx=>⟨hx,h⟩
  ·refine Ax (Aa rfl fun σ w1 hC h=> ?_)
   have b1:=Ae (h 13 (by decide))
   have b2:(fun x w' =>RG 66 (updC) w' x ([(⟨1,([109,97,105,110]:List UInt8),zid,id1⟩:Ba)])) (σ 15) w1:=h 15 (by decide)
   refine Yk.callA3 Hb b1 rfl (vr (St (([102,105,114,115,116]:List UInt8))) rfl) ((Id QA (lv:=σ 15) (z:=Dx) ⟨RG.nil _ _ _,RG.nil _ _ _,RG.nil _ _ _⟩ PL b2 (by decide) (by decide)).mono ?_)
   rintro e w2 ⟨v,rfl,hR,hx⟩
   exact⟨_,rfl,hx,v,rfl,hR.zero⟩
  ·refine Ax (Aa rfl fun σ w1 hC h=> ?_)
   have b3:(fun x w' =>∃v,x = .tuple #[.agg (refsC (r1,v)).toArray,NI 0]∧RefsOw 0 w' (r1,v)) (σ 16) w1:=h 16 (by decide)
   exact Yk.move rfl ⟨Ext.refl _,b3⟩
  ·refine Ax (Aa rfl fun σ w1 hC h=> ?_)
   have ay:(fun x w' =>∃v,x = .tuple #[.agg (refsC (r1,v)).toArray,NI 0]∧RefsOw 0 w' (r1,v)) (σ 12) w1:=h 12 (by decide)
   obtain⟨v0,h1_,h2_⟩:=ay
   exact Yk.extract (vs:= [.agg (refsC (r1,v0)).toArray,NI 0]) h1_ (show _=some (Value.agg (refsC (r1,v0)).toArray)from rfl) ⟨Ext.refl _,v0,rfl,h2_⟩
  ·refine Ax (Aa rfl fun σ w1 hC h=> ?_)
   have ay:(fun x w' =>∃v,x = .tuple #[.agg (refsC (r1,v)).toArray,NI 0]∧RefsOw 0 w' (r1,v)) (σ 12) w1:=h 12 (by decide)
   obtain⟨v0,h1_,h2_⟩:=ay
   exact Yk.extract (vs:= [.agg (refsC (r1,v0)).toArray,NI 0]) h1_ (show _=some (NI 0:Value)from rfl) ⟨Ext.refl _,rfl⟩
  ·refine Ax (Aa rfl fun σ w1 hC h=> ?_)
   exact Yk.alloc (cs:=(refsC ((⟨[],[],[],zid,[]⟩,⟨.slice none 0 0, .slice none 0 0, .slice none 0 0⟩):Ah)).toArray) N8 fun g w2 hn hb hx hs=>⟨hx,g,rfl,hb,Nat.le_trans (show Ext ak w1 from hC).size (Nat.le_of_eq hn)⟩
  ·exact trivial
  ·exact trivial
 intro an ao az he hf
 obtain⟨-,-,-,-,-,k17,k18,k2,-⟩:=hf
 obtain⟨T0,T1,-⟩:=he.hold [(0, .bool (false)),(1,PQ n3 0)] ⟨rfl,rfl,trivial⟩ rfl
 clear he
 have hE:=hE.trans az
 have i:=eb az i
 have l:=l.trans az
 have k17:(fun x w' =>∃v,x = .agg (refsC (r1,v)).toArray∧RefsOw 0 w' (r1,v)) (an 17) ao:=k17
 obtain⟨dc,a1⟩:∃v,an 17=v:=⟨_,rfl⟩
 rw[a1]at k17
 have b4:=k17;clear k17
 obtain⟨p,hq_,hR27⟩:=b4
 rw[hq_]at a1;clear hq_
 have m:OG 0 60 33 nmdC ao p.branches r1.branches:=OG.low hR27.br (Nat.zero_le _)
 have n:OG 0 60 33 nmdC ao p.tags r1.tags:=OG.low hR27.tg (Nat.zero_le _)
 have f:OG 0 50 67 entC ao p.log r1.log:=OG.low hR27.lg (Nat.zero_le _)
 have bf:an 18=NI 0:=k18
 have k2:(fun x w' =>∃g,x=PQ g 0∧w'.heap[g]? =some (.cells (refsC ((⟨[],[],[],zid,[]⟩,⟨.slice none 0 0, .slice none 0 0, .slice none 0 0⟩):Ah)).toArray 35 (0,0))∧ak.heap.size≤g) (an 2) ao:=k2
 obtain⟨dd,T2⟩:∃v,an 2=v:=⟨_,rfl⟩
 rw[T2]at k2
 have b5:=k2;clear k2
 obtain⟨aq,rfl,c,de⟩:=b5
 have df:=bl c
 clear k18
 have b6:=OG.off m c (by decide)
 have b7:=OG.off n c (by decide)
 have b8:=OG.off f c (by decide)
 refine oS rfl (Yk.storeAll T2 a1 c (by simp only[List.size_toArray,Ao]) (AC (Ao _) IJ) (Br (x:=(r1,p)) (RG.one (RG.ofOwn m)).2 (RG.one (RG.ofOwn n)).2 (RG.one (RG.ofOwn f)).2) fun b9 bg al dg=> ?_)
 have hE:=Af hE al (Nat.le_trans bw (by omega))
 have i:=kb al i (by omega)
 have l:=Af l al (Nat.le_trans (Nat.le_refl _) (by omega))
 have m:=OG.kept m al b6
 have n:=OG.kept n al b7
 have f:=OG.kept f al b8
 clear c
 have c:b9.heap[aq]? =some (.cells (refsC (r1,p)).toArray 35 (0,0)):=bg;clear bg
 have dh:=bl c
 refine oA rfl (oZ (tN (bv _ _ (sk fun di ca=>(wt (oS rfl (Yk.loadAll T2 c (N9).choose_spec rfl (AC (Ao (r1,p)) IJ) (oS rfl (Yk.callA2 Oz (vr (.agg (refsC (r1,p)).toArray) rfl) (vr (St (([]:List UInt8))) rfl) ((QH Q8 ⟨RG.ofOwn m,RG.ofOwn n,RG.ofOwn f⟩ M5).mono ?_))))))))))
 rintro e cb ⟨rfl,ai⟩
 refine⟨_,rfl,?_⟩
 have hE:=hE.trans ai
 have i:=eb ai i
 have l:=l.trans ai
 have m:=m.keep ai
 have n:=n.keep ai
 have f:=f.keep ai
 have c:=eb ai c
 refine oM rfl (oS rfl (Yk.extract (vs:= [AB id1.1,NI 0]) (vr (.tuple #[AB id1.1,NI 0]) rfl) (show _=some (AB id1.1:Value)from rfl) (oS rfl (Yk.extract (vs:= [AB id1.1,NI 0]) (vr (.tuple #[AB id1.1,NI 0]) rfl) (show _=some (NI 0:Value)from rfl) (oS rfl (Yk.alloc (cs:=(Lib.byteCells (List.replicate 32 0)).toArray) H9 fun ar cc bh bi af dj=> ?_))))))
 have o:=Ext.refl cb
 have cd:=hE.size
 have ce:=l.size
 have dk:=Bc (bl i) bh
 have dl:=Bc (bl c) bh
 have hE:=hE.trans af
 have i:=eb af i
 have l:=l.trans af
 have m:=m.keep af
 have n:=n.keep af
 have f:=f.keep af
 have c:=eb af c
 have o:=o.trans af
 have j:=bi;clear bi
 have dm:ar<cc.heap.size:=by omega
 have cf:=OG.off m j (by decide)
 have cg:=OG.off n j (by decide)
 have ch:=OG.off f j (by decide)
 refine oS rfl (Yk.storeAll (vr (PQ ar 0) rfl) (vr (AB id1.1) rfl) j (by exact BK id1.2 List.length_replicate) (by exact At id1.2) (Ay _) fun dn bj ag dp=> ?_)
 have hE:=Af hE ag (Nat.le_trans cd (by omega))
 have i:=kb ag i (by omega)
 have l:=Af l ag (Nat.le_trans ce (by omega))
 have m:=OG.kept m ag cf
 have n:=OG.kept n ag cg
 have f:=OG.kept f ag ch
 have c:=kb ag c (by omega)
 have o:=Af o ag (Nat.le_trans (Nat.le_refl _) (by omega))
 clear j
 have j:=bj;clear bj
 have dq:=bl j
 refine oA rfl (oZ (tN (ca _ _ (sk fun dr ci=>(wt (oS rfl (Yk.loadAll T2 c (N9).choose_spec rfl (AC (Ao (r1,p)) IJ) (oS rfl (Yk.loadAll T1 i (JK).choose_spec rfl (AC (BT (⟨1,([109,97,105,110]:List UInt8),zid,id1⟩:Ba)) IK) (oS rfl (Yk.lit1G (a:=(⟨1,([109,97,105,110]:List UInt8),zid,id1⟩:Ba)) (enc:=updC) (vr (.agg (updC (⟨1,([109,97,105,110]:List UInt8),zid,id1⟩:Ba)).toArray) rfl) (BT _) Ha fun cj ds ck aa=> ?_)))))))))))
 have hE:=hE.trans aa
 have i:=eb aa i
 have l:=l.trans aa
 have m:=m.keep aa
 have n:=n.keep aa
 have f:=f.keep aa
 have c:=eb aa c
 have o:=o.trans aa
 have j:=eb aa j
 refine oS rfl (Yk.callA3 Hb (vr (.agg (refsC (r1,p)).toArray) rfl) (vr cj rfl) (vr (St (([97,103,97,105,110]:List UInt8))) rfl) ((Id QB ⟨RG.ofOwn m,RG.ofOwn n,RG.ofOwn f⟩ M5 ck (by decide) (by decide)).mono ?_))
 rintro e au ⟨s,rfl,hR86,ab⟩
 refine⟨_,rfl,?_⟩
 have hE:=hE.trans ab
 have i:=eb ab i
 have l:=l.trans ab
 have m:=m.keep ab
 have n:=n.keep ab
 have f:=f.keep ab
 have c:=eb ab c
 have o:=o.trans ab
 have j:=eb ab j
 have a2:OG 0 60 33 nmdC au s.branches zeroR.branches:=OG.low hR86.br (Nat.zero_le _)
 have a3:OG 0 60 33 nmdC au s.tags zeroR.tags:=OG.low hR86.tg (Nat.zero_le _)
 have a4:OG 0 50 67 entC au s.log zeroR.log:=OG.low hR86.lg (Nat.zero_le _)
 refine oM rfl (oS rfl (Yk.extract (vs:= [.agg (refsC (zeroR,s)).toArray,NI 15]) (vr (.tuple #[.agg (refsC (zeroR,s)).toArray,NI 15]) rfl) (show _=some (.agg (refsC (zeroR,s)).toArray:Value)from rfl) (oS rfl (Yk.extract (vs:= [.agg (refsC (zeroR,s)).toArray,NI 15]) (vr (.tuple #[.agg (refsC (zeroR,s)).toArray,NI 15]) rfl) (show _=some (NI 15:Value)from rfl) (oS rfl (Yk.alloc (cs:=(refsC ((⟨[],[],[],zid,[]⟩,⟨.slice none 0 0, .slice none 0 0, .slice none 0 0⟩):Ah)).toArray) N8 fun a5 cl a6 bk q dt=> ?_))))))
 have ac:=Ext.refl au
 have cm:=hE.size
 have cn:=l.size
 have co:=o.size
 have du:=Bc (bl i) a6
 have dv:=Bc (bl c) a6
 have dw:=Bc (bl j) a6
 have hE:=hE.trans q
 have i:=eb q i
 have l:=l.trans q
 have m:=m.keep q
 have n:=n.keep q
 have f:=f.keep q
 have c:=eb q c
 have o:=o.trans q
 have j:=eb q j
 have a2:=a2.keep q
 have a3:=a3.keep q
 have a4:=a4.keep q
 have ac:=ac.trans q
 have r:=bk;clear bk
 have dx:a5<cl.heap.size:=by omega
 have cp:=OG.off m r (by decide)
 have cq:=OG.off n r (by decide)
 have cr:=OG.off f r (by decide)
 refine oS rfl (Yk.storeAll (vr (PQ a5 0) rfl) (vr (.agg (refsC (zeroR,s)).toArray) rfl) r (by simp only[List.size_toArray,Ao]) (AC (Ao _) IJ) (Br (x:=(zeroR,s)) (RG.one (RG.ofOwn a2)).2 (RG.one (RG.ofOwn a3)).2 (RG.one (RG.ofOwn a4)).2) fun ct bm y dy=> ?_)
 have hE:=Af hE y (Nat.le_trans cm (by omega))
 have i:=kb y i (by omega)
 have l:=Af l y (Nat.le_trans cn (by omega))
 have m:=OG.kept m y cp
 have n:=OG.kept n y cq
 have f:=OG.kept f y cr
 have c:=kb y c (by omega)
 have o:=Af o y (Nat.le_trans co (by omega))
 have j:=kb y j (by omega)
 have ac:=Af ac y (Nat.le_trans (Nat.le_refl _) (by omega))
 clear r
 have r:ct.heap[a5]? =some (.cells (refsC (zeroR,s)).toArray 35 (0,0)):=bm;clear bm
 have dz:=bl r
 refine oA rfl (oZ (tN (ci _ _ (sk fun d0 cu=>(wt (oS rfl (Yk.loadAll T2 c (N9).choose_spec rfl (AC (Ao (r1,p)) IJ) (oS rfl (Yk.run (v:=AB id1.1) (by kernel_rfl) (oS rfl (Yk.build3 (vr (B8 (1)) rfl) (vr (St (([109,97,105,110]:List UInt8))) rfl) (vr (AB id1.1) rfl) (fun w=>IO 1 ([109,97,105,110]:List UInt8) id1 w) (oS rfl (Yk.lit1G (a:=(⟨1,([109,97,105,110]:List UInt8),id1,zid⟩:Ba)) (enc:=updC) (vr (.agg (updC (⟨1,([109,97,105,110]:List UInt8),id1,zid⟩:Ba)).toArray) rfl) (BT _) Ha fun cv d1 cw t=> ?_)))))))))))))
 have hE:=hE.trans t
 have i:=eb t i
 have l:=l.trans t
 have m:=m.keep t
 have n:=n.keep t
 have f:=f.keep t
 have c:=eb t c
 have o:=o.trans t
 have j:=eb t j
 have ac:=ac.trans t
 have r:=eb t r
 refine oS rfl (Yk.callA3 Hb (vr (.agg (refsC (r1,p)).toArray) rfl) (vr cv rfl) (vr (St (([]:List UInt8))) rfl) ((Id QC ⟨RG.ofOwn m,RG.ofOwn n,RG.ofOwn f⟩ M5 cw (by decide) (by decide)).mono ?_))
 rintro e a7 ⟨u,rfl,hR142,ad⟩
 refine⟨_,rfl,?_⟩
 have hE:=hE.trans ad
 have i:=eb ad i
 have l:=l.trans ad
 have f:=f.keep ad
 have c:=eb ad c
 have o:=o.trans ad
 have j:=eb ad j
 have ac:=ac.trans ad
 have r:=eb ad r
 have a8:OG 0 60 33 nmdC a7 u.branches zeroR.branches:=OG.low hR142.br (Nat.zero_le _)
 have a9:OG 0 60 33 nmdC a7 u.tags zeroR.tags:=OG.low hR142.tg (Nat.zero_le _)
 have ba:OG 0 50 67 entC a7 u.log zeroR.log:=OG.low hR142.lg (Nat.zero_le _)
 refine oM rfl (oS rfl (Yk.extract (vs:= [.agg (refsC (zeroR,u)).toArray,NI 16]) (vr (.tuple #[.agg (refsC (zeroR,u)).toArray,NI 16]) rfl) (show _=some (.agg (refsC (zeroR,u)).toArray:Value)from rfl) (oS rfl (Yk.extract (vs:= [.agg (refsC (zeroR,u)).toArray,NI 16]) (vr (.tuple #[.agg (refsC (zeroR,u)).toArray,NI 16]) rfl) (show _=some (NI 16:Value)from rfl) (oS rfl (Yk.alloc (cs:=(refsC ((⟨[],[],[],zid,[]⟩,⟨.slice none 0 0, .slice none 0 0, .slice none 0 0⟩):Ah)).toArray) N8 fun bb cx av bn aj d2=> ?_))))))
 have cy:=hE.size
 have d3:=l.size
 have d4:=o.size
 have d5:=ac.size
 have d6:=Bc (bl i) av
 have d7:=Bc (bl c) av
 have d8:=Bc (bl j) av
 have d9:=Bc (bl r) av
 have hE:=hE.trans aj
 have f:=f.keep aj
 have c:=eb aj c
 have j:=eb aj j
 have a8:=a8.keep aj
 have a9:=a9.keep aj
 have ba:=ba.keep aj
 have ap:=bn;clear bn
 have ea:bb<cx.heap.size:=by omega
 have cz:=OG.off f ap (by decide)
 refine oS rfl (Yk.storeAll (vr (PQ bb 0) rfl) (vr (.agg (refsC (zeroR,u)).toArray) rfl) ap (by simp only[List.size_toArray,Ao]) (AC (Ao _) IJ) (Br (x:=(zeroR,u)) (RG.one (RG.ofOwn a8)).2 (RG.one (RG.ofOwn a9)).2 (RG.one (RG.ofOwn ba)).2) fun c0 bo aw ec=> ?_)
 have hE:=Af hE aw (Nat.le_trans cy (by omega))
 have f:=OG.kept f aw cz
 have c:=kb aw c (by omega)
 have j:=kb aw j (by omega)
 clear ap
 have ap:c0.heap[bb]? =some (.cells (refsC (zeroR,u)).toArray 35 (0,0)):=bo;clear bo
 have ed:=bl ap
 refine oA rfl (oZ (tN (cu _ _ (sk fun ee c1=>(wt (oM rfl (oS rfl (Yk.eqI (a:=(0:Nat)) (b:=(0:Nat)) bf rfl (A2 _ _ _ _) (oM rfl (Ac (NI 0) rfl rfl (gT (vr (.bool (decide ((0:Nat)=(0)))) rfl)) (fun hG205=>Yk.move (vr (NI 0) rfl) ⟨rfl,rfl⟩) (Ac (.bool (decide ((0:Nat)=(0)))) rfl rfl (gT (vr (.bool (decide ((0:Nat)=(0)))) rfl)) (fun hG206=>Yk.eqI (a:=((0:Nat):Int)) (b:=((0:Nat):Int)) (Ak (vr (cond ((decide ((0:Nat)=(0)))) (NI 0) undef) rfl) hG206) (vr (NI 0) rfl) (A2 _ .i64 (0) (0)) ⟨rfl,rfl⟩) (oS rfl (Yk.pickAndN (vr (.bool (decide ((0:Nat)=(0)))) rfl) (fun hA=>(Ak (vr (cond ((decide ((0:Nat)=(0)))) (.bool (decide ((0:Nat)=(0)))) undef) rfl) hA)) (vr (.bool (false)) rfl) fun bb207 hbb208=>(oM rfl (Ac (AB id1.1) rfl rfl (gT (vr (.bool (bb207)) rfl)) (fun hG209=>Yk.loadAll (vr (PQ ar 0) rfl) j P8 rfl (by exact At id1.2) ⟨rfl,rfl⟩) (Ac (AB id1.1) rfl rfl (gT (vr (.bool (bb207)) rfl)) (fun hG210=>Yk.run (v:=AB id1.1) (by kernel_rfl) ⟨rfl,rfl⟩) (Ac (.bool (decide (id1.1=id1.1))) rfl rfl (gT (vr (.bool (bb207)) rfl)) (fun hG211=>Yk.eqArr (l1:=id1.1) (l2:=id1.1) P8 u5 MH NE (Ak (vr (cond (bb207) (AB id1.1) undef) rfl) hG211) (Ak (vr (cond (bb207) (AB id1.1) undef) rfl) hG211) (id1.2) (id1.2) ⟨rfl,rfl⟩) (oS rfl (Yk.pickAndN (vr (.bool (bb207)) rfl) (fun hA=>(Ak (vr (cond (bb207) (.bool (decide (id1.1=id1.1))) undef) rfl) hA)) (vr (.bool (false)) rfl) fun bb212 hbb213=> ?_)))))))))))))))))))
 refine oM rfl (Ac (NI 15) rfl rfl (gT (vr (.bool (bb212)) rfl)) (fun hG214=>Yk.move (vr (NI 15) rfl) ⟨rfl,rfl⟩) (Ac (.bool (decide ((15:Nat)=(15)))) rfl rfl (gT (vr (.bool (bb212)) rfl)) (fun hG215=>Yk.eqI (a:=((15:Nat):Int)) (b:=((15:Nat):Int)) (Ak (vr (cond (bb212) (NI 15) undef) rfl) hG215) (vr (NI 15) rfl) (A2 _ .i64 (15) (15)) ⟨rfl,rfl⟩) (oS rfl (Yk.pickAndN (vr (.bool (bb212)) rfl) (fun hA=>(Ak (vr (cond (bb212) (.bool (decide ((15:Nat)=(15)))) undef) rfl) hA)) (vr (.bool (false)) rfl) fun bb216 hbb217=>(oM rfl (Ac (NI 16) rfl rfl (gT (vr (.bool (bb216)) rfl)) (fun hG218=>Yk.move (vr (NI 16) rfl) ⟨rfl,rfl⟩) (Ac (.bool (decide ((16:Nat)=(16)))) rfl rfl (gT (vr (.bool (bb216)) rfl)) (fun hG219=>Yk.eqI (a:=((16:Nat):Int)) (b:=((16:Nat):Int)) (Ak (vr (cond (bb216) (NI 16) undef) rfl) hG219) (vr (NI 16) rfl) (A2 _ .i64 (16) (16)) ⟨rfl,rfl⟩) (oS rfl (Yk.pickAndN (vr (.bool (bb216)) rfl) (fun hA=>(Ak (vr (cond (bb216) (.bool (decide ((16:Nat)=(16)))) undef) rfl) hA)) (vr (.bool (false)) rfl) fun bb220 hbb221=>(oM rfl (Ac (PQ aq 35) rfl rfl (gT (vr (.bool (bb220)) rfl)) (fun hG222=>Yk.fieldAt HK T2 ⟨rfl,rfl⟩) (Ac (((r1,p)).2.log) rfl rfl (gT (vr (.bool (bb220)) rfl)) (fun hG223=>Yk.cell1 EA rfl (Ak (vr (cond (bb220) (PQ aq 35) undef) rfl) hG223) (Al c (show(refsC (r1,p))[35]? =some (((r1,p)).2.log:Value)from Bn (r1,p))) ⟨rfl,rfl⟩) (Ac (NI ((r1.log).length)) rfl rfl (gT (vr (.bool (bb220)) rfl)) (fun hG224=>Yk.lenRG EA (RG.of (RG.ofOwn f) (Ak (vr (cond (bb220) (((r1,p)).2.log) undef) rfl) hG224)) ⟨rfl,rfl⟩) (Ac (.bool (decide (((r1.log).length:Nat)=(1)))) rfl rfl (gT (vr (.bool (bb220)) rfl)) (fun hG225=>Yk.eqI (a:=(((r1.log).length:Nat):Int)) (b:=((1:Nat):Int)) (Ak (vr (cond (bb220) (NI ((r1.log).length)) undef) rfl) hG225) (vr (NI 1) rfl) (A2 _ .i64 ((r1.log).length) (1)) ⟨rfl,rfl⟩) (oS rfl (Yk.pickAndN (vr (.bool (bb220)) rfl) (fun hA=>(Ak (vr (cond (bb220) (.bool (decide (((r1.log).length:Nat)=(1)))) undef) rfl) hA)) (vr (.bool (false)) rfl) fun bb226 hbb227=>(oA rfl (A3 [(0, .bool (bb226)),(1,PQ n3 0),(2,PQ aq 0),(3,NI 0),(4,PQ ar 0),(5,NI 0),(7,NI 15),(9,NI 16)] ⟨rfl,T1,T2,bf,rfl,rfl,rfl,rfl,trivial⟩ fun ef ⟨T0,T1,T2,T3,T4,T5,T7,T9,_⟩=> ?_))))))))))))))))))
 refine tN (c1 _ _ (Am (Aj (fn:=Tryz.f12) _ rfl [.bool (bb226)] (.bool (bb226)) rfl ⟨T0,trivial⟩ ?_)))
 subst hbb208 hbb213 hbb217 hbb221 hbb227
 exact⟨by first | rfl | decide | simp,hE⟩
open Go.RowKit
set_option maxRecDepth 100000
theorem EX:∀w' :World,(sizeOf 61).run Tryz.prog w' = .ok 33 w' :=fun _=>by kernel_rfl
theorem HW:Bm Tryz.prog 61 0 0:=fun b o w=>by simp[go_sem]
theorem HX:Bm Tryz.prog 61 1 1:=fun b o w=>by simp[go_sem]
theorem GF(z0:List UInt8)(z1:BS)(w:World):(Instr.build 60 #[(0,St z0),(1,AB z1.1)]).run Tryz.prog w = .ok (.agg (St (z0) :: (Lib.byteCells z1.1)).toArray) w:=by
 obtain⟨z1,k1⟩:=z1
 obtain⟨a1_0,a1_1,a1_2,a1_3,a1_4,a1_5,a1_6,a1_7,a1_8,a1_9,a1_10,a1_11,a1_12,a1_13,a1_14,a1_15,a1_16,a1_17,a1_18,a1_19,a1_20,a1_21,a1_22,a1_23,a1_24,a1_25,a1_26,a1_27,a1_28,a1_29,a1_30,a1_31,rfl⟩:=Fc k1
 exact Jf _ _ _ _ _ _ _ _ _ _ _ _ _ _ _ _ _ _ _ _ _ _ _ _ _ _ _ _ _ _ _ _ _ w
theorem JW:∀(cs:Array Value),cs.size=33→∀w:World,(Instr.buildSlice 33 1 #[(0, .agg cs)]).run Tryz.prog w = .ok (.slice (some ⟨w.heap.size,0,none⟩) 1 1) (w.alloc (.cells cs 60))
 | ⟨c0 :: c1 :: c2 :: c3 :: c4 :: c5 :: c6 :: c7 :: c8 :: c9 :: c10 :: c11 :: c12 :: c13 :: c14 :: c15 :: c16 :: c17 :: c18 :: c19 :: c20 :: c21 :: c22 :: c23 :: c24 :: c25 :: c26 :: c27 :: c28 :: c29 :: c30 :: c31 :: c32 :: []⟩,_,w=>N5 c0 c1 c2 c3 c4 c5 c6 c7 c8 c9 c10 c11 c12 c13 c14 c15 c16 c17 c18 c19 c20 c21 c22 c23 c24 c25 c26 c27 c28 c29 c30 c31 c32 w
theorem HY:Bm Tryz.prog 27 2 2:=fun b o w=>by simp[go_sem]
theorem H0:Bm Tryz.prog 27 3 3:=fun b o w=>by simp[go_sem]
theorem JX{d:Option Tmp}{ty:TypeId}{pos:String}{af:Array Edge}{gd:Option (Nat × Bool)}(σ:Operand→Value)(w:World):(execOp σ ⟨d, .alloc 27,ty,pos,af,gd⟩).run Tryz.prog w = .ok (.value (PQ w.heap.size 0)) (w.alloc (.cells (refsC ((⟨[],[],[],zid,[]⟩,⟨.slice none 0 0, .slice none 0 0, .slice none 0 0⟩):Ah)).toArray 27)):=by kernel_rfl
theorem Jj(z0:ByteArray)(c1_0 c1_1 c1_2 c1_3 c1_4 c1_5 c1_6 c1_7 c1_8 c1_9 c1_10 c1_11 c1_12 c1_13 c1_14 c1_15 c1_16 c1_17 c1_18 c1_19 c1_20 c1_21 c1_22 c1_23 c1_24 c1_25 c1_26 c1_27 c1_28 c1_29 c1_30 c1_31:Value)(w:World):(Instr.build 61 #[(0, .string z0),(1, .agg #[c1_0,c1_1,c1_2,c1_3,c1_4,c1_5,c1_6,c1_7,c1_8,c1_9,c1_10,c1_11,c1_12,c1_13,c1_14,c1_15,c1_16,c1_17,c1_18,c1_19,c1_20,c1_21,c1_22,c1_23,c1_24,c1_25,c1_26,c1_27,c1_28,c1_29,c1_30,c1_31])]).run Tryz.prog w = .ok (.agg #[.string z0,c1_0,c1_1,c1_2,c1_3,c1_4,c1_5,c1_6,c1_7,c1_8,c1_9,c1_10,c1_11,c1_12,c1_13,c1_14,c1_15,c1_16,c1_17,c1_18,c1_19,c1_20,c1_21,c1_22,c1_23,c1_24,c1_25,c1_26,c1_27,c1_28,c1_29,c1_30,c1_31]) w:=by kernel_rfl
theorem GG(z0:List UInt8)(z1:BS)(w:World):(Instr.build 61 #[(0,St z0),(1,AB z1.1)]).run Tryz.prog w = .ok (.agg (St (z0) :: (Lib.byteCells z1.1)).toArray) w:=by
 obtain⟨z1,k1⟩:=z1
 obtain⟨a1_0,a1_1,a1_2,a1_3,a1_4,a1_5,a1_6,a1_7,a1_8,a1_9,a1_10,a1_11,a1_12,a1_13,a1_14,a1_15,a1_16,a1_17,a1_18,a1_19,a1_20,a1_21,a1_22,a1_23,a1_24,a1_25,a1_26,a1_27,a1_28,a1_29,a1_30,a1_31,rfl⟩:=Fc k1
 exact Jj _ _ _ _ _ _ _ _ _ _ _ _ _ _ _ _ _ _ _ _ _ _ _ _ _ _ _ _ _ _ _ _ _ w
theorem OA(c0 c1 c2 c3 c4 c5 c6 c7 c8 c9 c10 c11 c12 c13 c14 c15 c16 c17 c18 c19 c20 c21 c22 c23 c24 c25 c26 c27 c28 c29 c30 c31 c32:Value)(w:World):(Instr.buildSlice 22 1 #[(0, .agg #[c0,c1,c2,c3,c4,c5,c6,c7,c8,c9,c10,c11,c12,c13,c14,c15,c16,c17,c18,c19,c20,c21,c22,c23,c24,c25,c26,c27,c28,c29,c30,c31,c32])]).run Tryz.prog w = .ok (.slice (some ⟨w.heap.size,0,none⟩) 1 1) (w.alloc (.cells #[c0,c1,c2,c3,c4,c5,c6,c7,c8,c9,c10,c11,c12,c13,c14,c15,c16,c17,c18,c19,c20,c21,c22,c23,c24,c25,c26,c27,c28,c29,c30,c31,c32] 61)):=by kernel_rfl
theorem JY:∀(cs:Array Value),cs.size=33→∀w:World,(Instr.buildSlice 22 1 #[(0, .agg cs)]).run Tryz.prog w = .ok (.slice (some ⟨w.heap.size,0,none⟩) 1 1) (w.alloc (.cells cs 61))
 | ⟨c0 :: c1 :: c2 :: c3 :: c4 :: c5 :: c6 :: c7 :: c8 :: c9 :: c10 :: c11 :: c12 :: c13 :: c14 :: c15 :: c16 :: c17 :: c18 :: c19 :: c20 :: c21 :: c22 :: c23 :: c24 :: c25 :: c26 :: c27 :: c28 :: c29 :: c30 :: c31 :: c32 :: []⟩,_,w=>OA c0 c1 c2 c3 c4 c5 c6 c7 c8 c9 c10 c11 c12 c13 c14 c15 c16 c17 c18 c19 c20 c21 c22 c23 c24 c25 c26 c27 c28 c29 c30 c31 c32 w
theorem wr28_ig61:∃z,(Tryz.prog.info? 61).map (fun i=>(i.zero,i.size,i.bytes))=some (some z,33,48)∧z.cells.size=33:=Hs (by kernel_rfl)
theorem IP:(Tryz.prog.info? 22).map (·.size)=some 1:=by kernel_rfl
theorem JZ:∃fs,Tryz.prog.underlying 27=some (.struct fs):=Dw (by kernel_rfl)
theorem Gq:(Tryz.prog.info? 27).map (·.size)=some 36:=by kernel_rfl
set_option maxHeartbeats 1600000
theorem EY(w:World)(y:Ah)(hm:RefsAt w y)(hc:y.1.branches.length≤80∧y.1.tags.length≤80∧y.1.log.length≤80):
  Calls Tryz.prog 6 #[.agg (refsC y).toArray] w fun e w' =>∃z,e = .returned (.agg (refsC (y.1,z)).toArray)∧RefsAt w' (y.1,z)∧Ext w w' :=by
 have hmt:=hm.branches
 have hmg:=hm.tags
 have hml:=hm.log
 obtain⟨az,d5,d6⟩:=hc
 refine As (args:= [.agg (refsC y).toArray]) Tryz.func6 rfl 69 rfl (Nat.le_of_ble_eq_true rfl) ?_
 intro b1 hb
 have r:b1 0=(.agg (refsC y).toArray:Value):=hb.get 0
 clear hb
 have hE:=Ext.refl w
 refine sk fun K1 b2=>(wt (oS rfl (Yk.box (cs:=(refsC y:List Value).toArray) r fun l w3 d8 a9 b3 d9=> ?_)))
 have hE:=hE.trans b3
 have c:=a9;clear a9
 have ea:l<w3.heap.size:=by omega
 refine oS rfl (Yk.alloc (cs:=(refsC ((⟨[],[],[],zid,[]⟩,⟨.slice none 0 0, .slice none 0 0, .slice none 0 0⟩):Ah)).toArray) N8 fun u b4 b5 ba a0 ec=> ?_)
 have ax:=Ext.refl w3
 have b6:=hE.size
 have ed:=Bc (bl c) b5
 have hE:=hE.trans a0
 have c:=eb a0 c
 have ax:=ax.trans a0
 have f:=ba;clear ba
 have ee:u<b4.heap.size:=by omega
 refine oZ (tN (b2 _ _ (sk fun ef b7=>(wt (oS rfl (Yk.alloc (cs:=(refsC ((⟨[],[],[],zid,[]⟩,⟨.slice none 0 0, .slice none 0 0, .slice none 0 0⟩):Ah)).toArray) N8 fun j b8 bb bc a1 eg=> ?_))))))
 have ak:=hE.size
 have eh:=ax.size
 have ei:=Bc (bl c) bb
 have ej:=Bc (bl f) bb
 have hE:=hE.trans a1
 have c:=eb a1 c
 have f:=eb a1 f
 have bd:=bc;clear bc
 have el:j<b8.heap.size:=by omega
 refine oZ (tN (b7 _ _ (sk fun em b9=>(sk fun en ca=>(wt (oA rfl (A3 [(0, .agg (refsC y).toArray),(1,PQ l 0),(2,PQ u 0),(3,PQ j 0),(4,NI 0)] ⟨r,rfl,rfl,rfl,rfl,trivial⟩ fun eo ⟨r,o,t,p,q,_⟩=>(tN (ca _ _ (Av (A4 (fun(ρ:Au) (wz:World)=>∃i1:Nat,∃vb1:Value,ρ 0=(.agg (refsC y).toArray:Value)∧ρ 1=(PQ l 0:Value)∧ρ 2=(PQ u 0:Value)∧ρ 3=(PQ j 0:Value)∧ρ 4=(NI i1:Value)∧Ext w wz∧wz.heap[l]? =some (.cells (refsC y).toArray 27 (0,0))∧wz.heap[u]? =some (.cells (refsC ((⟨[],[],[],zid,[]⟩,⟨.slice none 0 0, .slice none 0 0, .slice none 0 0⟩):Ah)).toArray 35 (0,0))∧wz.heap[j]? =some (.cells (refsC ((⟨(y.1.branches.take i1),[],(((⟨[],[],[],zid,[]⟩,⟨.slice none 0 0, .slice none 0 0, .slice none 0 0⟩):Ah)).1.head,(((⟨[],[],[],zid,[]⟩,⟨.slice none 0 0, .slice none 0 0, .slice none 0 0⟩):Ah)).1.at_,[]⟩,⟨vb1,(Value.slice none 0 0),(Value.slice none 0 0)⟩):Ah)).toArray 35 (0,0))∧OG w.heap.size 60 33 (nmdC) wz vb1 (y.1.branches.take i1)∧(i1≤y.1.branches.length)∧(OB vb1 l)∧(OB vb1 u)∧(OB vb1 j)∧True) (fun ρ _=>y.1.branches.length-(intOf (ρ 4)).toNat) ⟨0,(Value.slice none 0 0),r,o,t,p,q,hE,c,f,bd,OG.nil _ _ _ _ _,Nat.zero_le _,(fun h=>by cases h),(fun h=>by cases h),(fun h=>by cases h),trivial⟩ ?_)))))))))))
 clear ax
 clear bd
 clear hE c f
 rintro cb ep ⟨i1,vb1,r,o,t,p,q,hE,c,f,hm1,g,hi1,hap_vb1_n2,hap_vb1_n10,hap_vb1_n23,-⟩
 have q4:=q
 have eq:=(bl c)
 have er:=(bl f)
 have es:=(bl hm1)
 refine sk fun et cc=>(sk fun eu cd=>(wt (oM rfl (oS rfl (Yk.fieldAt L5 o (oS rfl (Yk.cell1 Fz rfl (vr (PQ l 0) rfl) (Al c (show(refsC y)[0]? =some (y.2.branches:Value)from BN y)) (oS rfl (Yk.lenRG Fz (RG.of (hmt.keep hE) (vr y.2.branches rfl)) (oS rfl (Yk.eqI (a:=(i1:Nat)) (b:=((y.1.branches).length:Nat)) q rfl (AX _ _ _ _) (oZ (tN (cd _ _ ?_))))))))))))))
 refine AL ((i1)<((y.1.branches).length)) (vr (.bool (decide ((i1)<((y.1.branches).length)))) rfl) (fun be=> ?_) (fun be=> ?_)
 ·have ce:i1<y.1.branches.length:=be
  refine Aq (tN (cc _ _ (sk fun ew cf=>(Av ?_))))
  refine Cw 16 [Is (PQ j 0),Is (vb1),Is (PQ l 0),Is (y.2.branches),Is (NI i1),fun x w' =>PR (nmdC ((y.1.branches).getD (i1) dNmd)) x w',PCell (St (((y.1.branches).getD (i1) dNmd).name)),Is (St (((y.1.branches).getD (i1) dNmd).name)),Is (PQ l 0),Is (y.2.branches),Is (NI i1),fun x w' =>PR (nmdC ((y.1.branches).getD (i1) dNmd)) x w',fun x w' =>PR (Lib.byteCells ((y.1.branches).getD (i1) dNmd).id.1) x w',Is (AB (((y.1.branches).getD (i1) dNmd).id.1)),Is (.agg (nmdC (⟨(((y.1.branches).getD (i1) dNmd).name),((y.1.branches).getD (i1) dNmd).id⟩:AK)).toArray),fun x w' =>RG 33 (nmdC) w' x ([(⟨(((y.1.branches).getD (i1) dNmd).name),((y.1.branches).getD (i1) dNmd).id⟩:AK)])] (by kernel_rfl) [13,14,15,16,17,18,19,20,21,22,23,24,25,26,27,28,29,30] (by kernel_rfl) (by kernel_rfl) (by kernel_rfl) (by kernel_rfl) rfl rfl (Mh ⟨(fun _ _ _ h k=>PR.keep h k),Stab.pcell _,(EJ ⟨(fun _ _ _ h k=>PR.keep h k),(fun _ _ _ h k=>PR.keep h k),(DG ⟨(fun _ _ _ h k=>RG.keep h k),trivial⟩)⟩)⟩) ?cg ?hQ2005
  case cg=>
   refine⟨?_,?_,?_,?_,?_,?_,?_,?_,?_,?_,?_,?_,?_,?_,?_,?_,?_,?_,?_,trivial⟩
   ·refine Ax (Aa rfl fun σ w1 hC h=> ?_)
    have e3:=(Ae (h 3 (by decide))).trans p
    exact Yk.fieldAt LU e3 ⟨Ext.refl _,rfl⟩
   ·refine Ax (Aa rfl fun σ w1 hC h=> ?_)
    have ch:=Ae (h 13 (by decide))
    exact Yk.cell1 D5 rfl ch (Al (eb hC hm1) (show(refsC ((⟨(y.1.branches.take i1),[],(((⟨[],[],[],zid,[]⟩,⟨.slice none 0 0, .slice none 0 0, .slice none 0 0⟩):Ah)).1.head,(((⟨[],[],[],zid,[]⟩,⟨.slice none 0 0, .slice none 0 0, .slice none 0 0⟩):Ah)).1.at_,[]⟩,⟨vb1,(Value.slice none 0 0),(Value.slice none 0 0)⟩):Ah))[0]? =some (vb1:Value)from BN ((⟨(y.1.branches.take i1),[],(((⟨[],[],[],zid,[]⟩,⟨.slice none 0 0, .slice none 0 0, .slice none 0 0⟩):Ah)).1.head,(((⟨[],[],[],zid,[]⟩,⟨.slice none 0 0, .slice none 0 0, .slice none 0 0⟩):Ah)).1.at_,[]⟩,⟨vb1,(Value.slice none 0 0),(Value.slice none 0 0)⟩):Ah))) ⟨Ext.refl _,rfl⟩
   ·refine Ax (Aa rfl fun σ w1 hC h=> ?_)
    have e1:=(Ae (h 1 (by decide))).trans o
    exact Yk.fieldAt L5 e1 ⟨Ext.refl _,rfl⟩
   ·refine Ax (Aa rfl fun σ w1 hC h=> ?_)
    have ci:=Ae (h 15 (by decide))
    exact Yk.cell1 Fz rfl ci (Al (eb hC c) (show(refsC y)[0]? =some (y.2.branches:Value)from BN y)) ⟨Ext.refl _,rfl⟩
   ·refine Ax (Aa rfl fun σ w1 hC h=> ?_)
    have e4:=(Ae (h 4 (by decide))).trans q
    exact Yk.move e4 ⟨Ext.refl _,rfl⟩
   ·refine Ax (Aa rfl fun σ w1 hC h=> ?_)
    have cj:=Ae (h 16 (by decide))
    have ck:=Ae (h 17 (by decide))
    exact Yk.atRG Fz EX (by decide) dNmd (RG.of (hmt.keep (hE.trans hC)) cj) ck (by omega) fun v h=>⟨Ext.refl _,h⟩
   ·refine Ax (Aa rfl fun σ w1 hC h=> ?_)
    have cl:(fun x w' =>PR (nmdC ((y.1.branches).getD (i1) dNmd)) x w') (σ 18) w1:=h 18 (by decide)
    exact Yk.fieldPR (n:=1) HW cl fun v h=>⟨Ext.refl _,PR.pcell (by rw[DJ]at h;exact h)⟩
   ·refine Ax (Aa rfl fun σ w1 hC h=> ?_)
    have cm:(PCell (St (((y.1.branches).getD (i1) dNmd).name))) (σ 19) w1:=h 19 (by decide)
    exact Yk.loadC DT rfl cm ⟨Ext.refl _,rfl⟩
   ·refine Ax (Aa rfl fun σ w1 hC h=> ?_)
    have e1:=(Ae (h 1 (by decide))).trans o
    exact Yk.fieldAt L5 e1 ⟨Ext.refl _,rfl⟩
   ·refine Ax (Aa rfl fun σ w1 hC h=> ?_)
    have cn:=Ae (h 21 (by decide))
    exact Yk.cell1 Fz rfl cn (Al (eb hC c) (show(refsC y)[0]? =some (y.2.branches:Value)from BN y)) ⟨Ext.refl _,rfl⟩
   ·refine Ax (Aa rfl fun σ w1 hC h=> ?_)
    have e4:=(Ae (h 4 (by decide))).trans q
    exact Yk.move e4 ⟨Ext.refl _,rfl⟩
   ·refine Ax (Aa rfl fun σ w1 hC h=> ?_)
    have co:=Ae (h 22 (by decide))
    have cp:=Ae (h 23 (by decide))
    exact Yk.atRG Fz EX (by decide) dNmd (RG.of (hmt.keep (hE.trans hC)) co) cp (by omega) fun v h=>⟨Ext.refl _,h⟩
   ·refine Ax (Aa rfl fun σ w1 hC h=> ?_)
    have cq:(fun x w' =>PR (nmdC ((y.1.branches).getD (i1) dNmd)) x w') (σ 24) w1:=h 24 (by decide)
    exact Yk.fieldPR (n:=32) HX cq fun v h=>⟨Ext.refl _,by rw[Ee]at h;exact h⟩
   ·refine Ax (Aa rfl fun σ w1 hC h=> ?_)
    have cr:(fun x w' =>PR (Lib.byteCells ((y.1.branches).getD (i1) dNmd).id.1) x w') (σ 25) w1:=h 25 (by decide)
    exact Yk.loadPR cr P8 rfl (by rw[Lib.byteCells_length,((y.1.branches).getD (i1) dNmd).id.2];exact Nw) ⟨Ext.refl _,rfl⟩
   ·refine Ax (Aa rfl fun σ w1 hC h=> ?_)
    have ct:=Ae (h 20 (by decide))
    have cu:=Ae (h 26 (by decide))
    exact Yk.build2 ct cu (fun w=>GF (((y.1.branches).getD (i1) dNmd).name) (((y.1.branches).getD (i1) dNmd).id) w) ⟨Ext.refl _,rfl⟩
   ·refine Ax (Aa rfl fun σ w1 hC h=> ?_)
    have cv:=Ae (h 27 (by decide))
    exact Yk.lit1G (a:=(⟨(((y.1.branches).getD (i1) dNmd).name),((y.1.branches).getD (i1) dNmd).id⟩:AK)) (enc:=nmdC) cv (Bq _) JW fun v w2 h hx=>⟨hx,h⟩
   ·exact trivial
   ·exact trivial
   ·exact trivial
  intro a4 bf al he hf
  obtain⟨-,k14,-,-,-,-,-,-,-,-,-,-,-,-,-,k28,-⟩:=hf
  obtain⟨r,o,t,p,q,-⟩:=he.hold [(0,_),(1,_),(2,_),(3,_),(4,_)] ⟨r,o,t,p,q,trivial⟩ rfl
  clear he
  have hE:=hE.trans al
  have c:=eb al c
  have f:=eb al f
  have hm1:=eb al hm1
  have g:=g.keep al
  have bg:a4 14=vb1:=k14
  have k28:(fun x w' =>RG 33 (nmdC) w' x ([(⟨(((y.1.branches).getD (i1) dNmd).name),((y.1.branches).getD (i1) dNmd).id⟩:AK)])) (a4 28) bf:=k28
  obtain⟨ex,bh⟩:∃v,a4 28=v:=⟨_,rfl⟩
  rw[bh]at k28
  have bi:=k28;clear k28
  clear k14
  refine oS rfl (Yk.appendRG _ _ w.heap.size _ 48 D5 wr30_ig60.choose_spec.1 wr30_ig60.choose_spec.2 D5 (y.1.branches.take i1) ([(⟨(((y.1.branches).getD (i1) dNmd).name),((y.1.branches).getD (i1) dNmd).id⟩:AK)]) (OG.of g bg) (RG.of bi bh) (fun _ _=>CL) (by simp only[List.length_take,List.length_append,List.length_cons,List.length_nil];omega) (by simp only[List.length_take,List.length_append,List.length_cons,List.length_nil];omega) hE.size fun ag cx am ah=> ?_)
  have ah:Grew bf cx vb1 ag:= .eqv bg ah
  have cy:OB ag l:=AU ah hap_vb1_n2 (bl c)
  have cz:OB ag u:=AU ah hap_vb1_n10 (bl f)
  have bj:OB ag j:=AU ah hap_vb1_n23 (bl hm1)
  have hE:=AZ hE ah g.2 (Nat.le_refl _)
  have c:=AN c ah hap_vb1_n2
  have f:=AN f ah hap_vb1_n10
  have hm1:=AN hm1 ah hap_vb1_n23
  clear bi
  clear g
  refine oS rfl (Yk.fieldAt LU p (oS rfl (Yk.storeC (i:=0) (v:=ag) (vr (PQ j 0) rfl) (vr ag rfl) hm1 (by rw[Ao];decide) IL (RG.one (RG.ofOwn am)).1 (RG.one (RG.ofOwn am)).2 fun c0 bk ay ey=> ?_)))
  have hE:=Af hE ay (Nat.le_trans ak (by omega))
  have c:=kb ay c (by omega)
  have f:=kb ay f (by omega)
  have am:=OG.kept am ay bj
  clear hm1
  have hm1:c0.heap[j]? =some (.cells (refsC ((⟨(y.1.branches.take i1)++ [(⟨(((y.1.branches).getD (i1) dNmd).name),((y.1.branches).getD (i1) dNmd).id⟩:AK)],[],(((⟨[],[],[],zid,[]⟩,⟨.slice none 0 0, .slice none 0 0, .slice none 0 0⟩):Ah)).1.head,(((⟨[],[],[],zid,[]⟩,⟨.slice none 0 0, .slice none 0 0, .slice none 0 0⟩):Ah)).1.at_,[]⟩,⟨ag,(Value.slice none 0 0),(Value.slice none 0 0)⟩):Ah)).toArray 35 (0,0)):=AG bk (E2 ((⟨(y.1.branches.take i1),[],(((⟨[],[],[],zid,[]⟩,⟨.slice none 0 0, .slice none 0 0, .slice none 0 0⟩):Ah)).1.head,(((⟨[],[],[],zid,[]⟩,⟨.slice none 0 0, .slice none 0 0, .slice none 0 0⟩):Ah)).1.at_,[]⟩,⟨vb1,(Value.slice none 0 0),(Value.slice none 0 0)⟩):Ah) ag ((y.1.branches.take i1)++ [(⟨(((y.1.branches).getD (i1) dNmd).name),((y.1.branches).getD (i1) dNmd).id⟩:AK)]));clear bk
  have ez:=bl hm1
  refine oZ (bN (tN (cf _ _ (wt (oM rfl (oS rfl (Yk.bin (xv:=NI i1) (yv:=NI 1) q rfl rfl (AA _ _ _ (by omega)) (oA rfl (A3 [(0, .agg (refsC y).toArray),(1,PQ l 0),(2,PQ u 0),(3,PQ j 0),(4,NI ((i1)+(1)))] ⟨r,o,t,p,rfl,trivial⟩ fun c1 ⟨r,o,t,p,q,_⟩=>(tN (And.intro ⟨i1+1,ag,r,o,t,p,q,hE,c,f,hm1,CR am (Fx ce),by omega,cy,cz,bj,trivial⟩ ?_)))))))))))
  show y.1.branches.length-(intOf (c1 4)).toNat<y.1.branches.length-(intOf (cb 4)).toNat
  rw[q,q4]
  simp only[intOf,Int.toNat_natCast];omega
 refine AP (Ar (Ar (Az (tN (b9 _ _ (sk fun e0 c2=>(sk fun e6 c3=>(wt (oA rfl (A3 [(0, .agg (refsC y).toArray),(1,PQ l 0),(2,PQ u 0),(3,PQ j 0),(4,NI i1),(5,NI 0)] ⟨r,o,t,p,q,rfl,trivial⟩ fun e7 ⟨r,o,t,p,q,T5,_⟩=>(tN (c3 _ _ (Av (A4 (fun(ρ:Au) (wz:World)=>∃i2:Nat,∃vb2:Value,ρ 0=(.agg (refsC y).toArray:Value)∧ρ 1=(PQ l 0:Value)∧ρ 2=(PQ u 0:Value)∧ρ 3=(PQ j 0:Value)∧ρ 4=(NI i1:Value)∧ρ 5=(NI i2:Value)∧Ext w wz∧wz.heap[l]? =some (.cells (refsC y).toArray 27 (0,0))∧wz.heap[u]? =some (.cells (refsC ((⟨[],[],[],zid,[]⟩,⟨.slice none 0 0, .slice none 0 0, .slice none 0 0⟩):Ah)).toArray 35 (0,0))∧OG w.heap.size 60 33 (nmdC) wz vb1 (y.1.branches.take i1)∧wz.heap[j]? =some (.cells (refsC ((⟨(y.1.branches.take i1),(y.1.tags.take i2),(((⟨[],[],[],zid,[]⟩,⟨.slice none 0 0, .slice none 0 0, .slice none 0 0⟩):Ah)).1.head,(((⟨[],[],[],zid,[]⟩,⟨.slice none 0 0, .slice none 0 0, .slice none 0 0⟩):Ah)).1.at_,[]⟩,⟨vb1,vb2,(Value.slice none 0 0)⟩):Ah)).toArray 35 (0,0))∧OG w.heap.size 60 33 (nmdC) wz vb2 (y.1.tags.take i2)∧(i2≤y.1.tags.length)∧(OB vb2 l)∧(OB vb2 u)∧(OB vb2 j)∧(CD vb2 vb1)∧True) (fun ρ _=>y.1.tags.length-(intOf (ρ 5)).toNat) ⟨0,(Value.slice none 0 0),r,o,t,p,q,T5,hE,c,f,g,hm1,OG.nil _ _ _ _ _,Nat.zero_le _,(fun h=>by cases h),(fun h=>by cases h),(fun h=>by cases h),(fun k h=>by cases h),trivial⟩ ?_))))))))))))))
 clear hm1
 clear hE c f g
 rintro c4 bm ⟨i2,vb2,r,o,t,p,q,T5,hE,c,f,g,hm2,s,hi2,hap_vb2_n2,hap_vb2_n10,hap_vb2_n23,hap_vb2_vb1,-⟩
 have q5:=T5
 have e8:=(bl c)
 have e9:=(bl f)
 have fa:=(bl hm2)
 refine sk fun fb c5=>(sk fun fc c6=>(wt (oM rfl (oS rfl (Yk.fieldAt L6 o (oS rfl (Yk.cell1 Fz rfl (vr (PQ l 1) rfl) (Al c (show(refsC y)[1]? =some (y.2.tags:Value)from B6 y)) (oS rfl (Yk.lenRG Fz (RG.of (hmg.keep hE) (vr y.2.tags rfl)) (oS rfl (Yk.eqI (a:=(i2:Nat)) (b:=((y.1.tags).length:Nat)) T5 rfl (AX _ _ _ _) (oZ (tN (c6 _ _ ?_))))))))))))))
 refine AL ((i2)<((y.1.tags).length)) (vr (.bool (decide ((i2)<((y.1.tags).length)))) rfl) (fun az=> ?_) (fun az=> ?_)
 ·have c7:i2<y.1.tags.length:=az
  refine Aq (tN (c5 _ _ (sk fun fd c8=>(Av ?_))))
  refine Cw 16 [Is (PQ j 1),Is (vb2),Is (PQ l 1),Is (y.2.tags),Is (NI i2),fun x w' =>PR (nmdC ((y.1.tags).getD (i2) dNmd)) x w',PCell (St (((y.1.tags).getD (i2) dNmd).name)),Is (St (((y.1.tags).getD (i2) dNmd).name)),Is (PQ l 1),Is (y.2.tags),Is (NI i2),fun x w' =>PR (nmdC ((y.1.tags).getD (i2) dNmd)) x w',fun x w' =>PR (Lib.byteCells ((y.1.tags).getD (i2) dNmd).id.1) x w',Is (AB (((y.1.tags).getD (i2) dNmd).id.1)),Is (.agg (nmdC (⟨(((y.1.tags).getD (i2) dNmd).name),((y.1.tags).getD (i2) dNmd).id⟩:AK)).toArray),fun x w' =>RG 33 (nmdC) w' x ([(⟨(((y.1.tags).getD (i2) dNmd).name),((y.1.tags).getD (i2) dNmd).id⟩:AK)])] (by kernel_rfl) [38,39,40,41,42,43,44,45,46,47,48,49,50,51,52,53,54,55] (by kernel_rfl) (by kernel_rfl) (by kernel_rfl) (by kernel_rfl) rfl rfl (Mh ⟨(fun _ _ _ h k=>PR.keep h k),Stab.pcell _,(EJ ⟨(fun _ _ _ h k=>PR.keep h k),(fun _ _ _ h k=>PR.keep h k),(DG ⟨(fun _ _ _ h k=>RG.keep h k),trivial⟩)⟩)⟩) ?c9 ?hQ3009
  case c9=>
   refine⟨?_,?_,?_,?_,?_,?_,?_,?_,?_,?_,?_,?_,?_,?_,?_,?_,?_,?_,?_,trivial⟩
   ·refine Ax (Aa rfl fun σ w1 hC h=> ?_)
    have e3:=(Ae (h 3 (by decide))).trans p
    exact Yk.fieldAt LV e3 ⟨Ext.refl _,rfl⟩
   ·refine Ax (Aa rfl fun σ w1 hC h=> ?_)
    have da:=Ae (h 38 (by decide))
    exact Yk.cell1 D5 rfl da (Al (eb hC hm2) (show(refsC ((⟨(y.1.branches.take i1),(y.1.tags.take i2),(((⟨[],[],[],zid,[]⟩,⟨.slice none 0 0, .slice none 0 0, .slice none 0 0⟩):Ah)).1.head,(((⟨[],[],[],zid,[]⟩,⟨.slice none 0 0, .slice none 0 0, .slice none 0 0⟩):Ah)).1.at_,[]⟩,⟨vb1,vb2,(Value.slice none 0 0)⟩):Ah))[1]? =some (vb2:Value)from B6 ((⟨(y.1.branches.take i1),(y.1.tags.take i2),(((⟨[],[],[],zid,[]⟩,⟨.slice none 0 0, .slice none 0 0, .slice none 0 0⟩):Ah)).1.head,(((⟨[],[],[],zid,[]⟩,⟨.slice none 0 0, .slice none 0 0, .slice none 0 0⟩):Ah)).1.at_,[]⟩,⟨vb1,vb2,(Value.slice none 0 0)⟩):Ah))) ⟨Ext.refl _,rfl⟩
   ·refine Ax (Aa rfl fun σ w1 hC h=> ?_)
    have e1:=(Ae (h 1 (by decide))).trans o
    exact Yk.fieldAt L6 e1 ⟨Ext.refl _,rfl⟩
   ·refine Ax (Aa rfl fun σ w1 hC h=> ?_)
    have db:=Ae (h 40 (by decide))
    exact Yk.cell1 Fz rfl db (Al (eb hC c) (show(refsC y)[1]? =some (y.2.tags:Value)from B6 y)) ⟨Ext.refl _,rfl⟩
   ·refine Ax (Aa rfl fun σ w1 hC h=> ?_)
    have e5:=(Ae (h 5 (by decide))).trans T5
    exact Yk.move e5 ⟨Ext.refl _,rfl⟩
   ·refine Ax (Aa rfl fun σ w1 hC h=> ?_)
    have dc:=Ae (h 41 (by decide))
    have dd:=Ae (h 42 (by decide))
    exact Yk.atRG Fz EX (by decide) dNmd (RG.of (hmg.keep (hE.trans hC)) dc) dd (by omega) fun v h=>⟨Ext.refl _,h⟩
   ·refine Ax (Aa rfl fun σ w1 hC h=> ?_)
    have de:(fun x w' =>PR (nmdC ((y.1.tags).getD (i2) dNmd)) x w') (σ 43) w1:=h 43 (by decide)
    exact Yk.fieldPR (n:=1) HW de fun v h=>⟨Ext.refl _,PR.pcell (by rw[DJ]at h;exact h)⟩
   ·refine Ax (Aa rfl fun σ w1 hC h=> ?_)
    have df:(PCell (St (((y.1.tags).getD (i2) dNmd).name))) (σ 44) w1:=h 44 (by decide)
    exact Yk.loadC DT rfl df ⟨Ext.refl _,rfl⟩
   ·refine Ax (Aa rfl fun σ w1 hC h=> ?_)
    have e1:=(Ae (h 1 (by decide))).trans o
    exact Yk.fieldAt L6 e1 ⟨Ext.refl _,rfl⟩
   ·refine Ax (Aa rfl fun σ w1 hC h=> ?_)
    have dg:=Ae (h 46 (by decide))
    exact Yk.cell1 Fz rfl dg (Al (eb hC c) (show(refsC y)[1]? =some (y.2.tags:Value)from B6 y)) ⟨Ext.refl _,rfl⟩
   ·refine Ax (Aa rfl fun σ w1 hC h=> ?_)
    have e5:=(Ae (h 5 (by decide))).trans T5
    exact Yk.move e5 ⟨Ext.refl _,rfl⟩
   ·refine Ax (Aa rfl fun σ w1 hC h=> ?_)
    have dh:=Ae (h 47 (by decide))
    have di:=Ae (h 48 (by decide))
    exact Yk.atRG Fz EX (by decide) dNmd (RG.of (hmg.keep (hE.trans hC)) dh) di (by omega) fun v h=>⟨Ext.refl _,h⟩
   ·refine Ax (Aa rfl fun σ w1 hC h=> ?_)
    have dj:(fun x w' =>PR (nmdC ((y.1.tags).getD (i2) dNmd)) x w') (σ 49) w1:=h 49 (by decide)
    exact Yk.fieldPR (n:=32) HX dj fun v h=>⟨Ext.refl _,by rw[Ee]at h;exact h⟩
   ·refine Ax (Aa rfl fun σ w1 hC h=> ?_)
    have dk:(fun x w' =>PR (Lib.byteCells ((y.1.tags).getD (i2) dNmd).id.1) x w') (σ 50) w1:=h 50 (by decide)
    exact Yk.loadPR dk P8 rfl (by rw[Lib.byteCells_length,((y.1.tags).getD (i2) dNmd).id.2];exact Nw) ⟨Ext.refl _,rfl⟩
   ·refine Ax (Aa rfl fun σ w1 hC h=> ?_)
    have dl:=Ae (h 45 (by decide))
    have dm:=Ae (h 51 (by decide))
    exact Yk.build2 dl dm (fun w=>GF (((y.1.tags).getD (i2) dNmd).name) (((y.1.tags).getD (i2) dNmd).id) w) ⟨Ext.refl _,rfl⟩
   ·refine Ax (Aa rfl fun σ w1 hC h=> ?_)
    have dn:=Ae (h 52 (by decide))
    exact Yk.lit1G (a:=(⟨(((y.1.tags).getD (i2) dNmd).name),((y.1.tags).getD (i2) dNmd).id⟩:AK)) (enc:=nmdC) dn (Bq _) JW fun v w2 h hx=>⟨hx,h⟩
   ·exact trivial
   ·exact trivial
   ·exact trivial
  intro a6 bn ai he hf
  obtain⟨-,k39,-,-,-,-,-,-,-,-,-,-,-,-,-,k53,-⟩:=hf
  obtain⟨r,o,t,p,q,T5,-⟩:=he.hold [(0,_),(1,_),(2,_),(3,_),(4,_),(5,_)] ⟨r,o,t,p,q,T5,trivial⟩ rfl
  clear he
  have hE:=hE.trans ai
  have c:=eb ai c
  have f:=eb ai f
  have g:=g.keep ai
  have hm2:=eb ai hm2
  have s:=s.keep ai
  have bo:a6 39=vb2:=k39
  have k53:(fun x w' =>RG 33 (nmdC) w' x ([(⟨(((y.1.tags).getD (i2) dNmd).name),((y.1.tags).getD (i2) dNmd).id⟩:AK)])) (a6 53) bn:=k53
  obtain⟨fe,bp⟩:∃v,a6 53=v:=⟨_,rfl⟩
  rw[bp]at k53
  have bq:=k53;clear k53
  clear k39
  refine oS rfl (Yk.appendRG _ _ w.heap.size _ 48 D5 wr30_ig60.choose_spec.1 wr30_ig60.choose_spec.2 D5 (y.1.tags.take i2) ([(⟨(((y.1.tags).getD (i2) dNmd).name),((y.1.tags).getD (i2) dNmd).id⟩:AK)]) (OG.of s bo) (RG.of bq bp) (fun _ _=>CL) (by simp only[List.length_take,List.length_append,List.length_cons,List.length_nil];omega) (by simp only[List.length_take,List.length_append,List.length_cons,List.length_nil];omega) hE.size fun ae dp an ac=> ?_)
  have ac:Grew bn dp vb2 ae:= .eqv bo ac
  have dq:OB ae l:=AU ac hap_vb2_n2 (bl c)
  have dr:OB ae u:=AU ac hap_vb2_n10 (bl f)
  have br:OB ae j:=AU ac hap_vb2_n23 (bl hm2)
  have ds:CD ae vb1:=HJ ac hap_vb2_vb1 g.2
  have hE:=AZ hE ac s.2 (Nat.le_refl _)
  have c:=AN c ac hap_vb2_n2
  have f:=AN f ac hap_vb2_n10
  have g:=Dr g ac hap_vb2_vb1
  have hm2:=AN hm2 ac hap_vb2_n23
  clear bq
  clear s
  refine oS rfl (Yk.fieldAt LV p (oS rfl (Yk.storeC (i:=1) (v:=ae) (vr (PQ j 1) rfl) (vr ae rfl) hm2 (by rw[Ao];decide) IL (RG.one (RG.ofOwn an)).1 (RG.one (RG.ofOwn an)).2 fun dt bs ao ff=> ?_)))
  have hE:=Af hE ao (Nat.le_trans ak (by omega))
  have c:=kb ao c (by omega)
  have f:=kb ao f (by omega)
  have g:=OG.kept g ao hap_vb1_n23
  have an:=OG.kept an ao br
  clear hm2
  have hm2:dt.heap[j]? =some (.cells (refsC ((⟨(y.1.branches.take i1),(y.1.tags.take i2)++ [(⟨(((y.1.tags).getD (i2) dNmd).name),((y.1.tags).getD (i2) dNmd).id⟩:AK)],(((⟨[],[],[],zid,[]⟩,⟨.slice none 0 0, .slice none 0 0, .slice none 0 0⟩):Ah)).1.head,(((⟨[],[],[],zid,[]⟩,⟨.slice none 0 0, .slice none 0 0, .slice none 0 0⟩):Ah)).1.at_,[]⟩,⟨vb1,ae,(Value.slice none 0 0)⟩):Ah)).toArray 35 (0,0)):=AG bs (E3 ((⟨(y.1.branches.take i1),(y.1.tags.take i2),(((⟨[],[],[],zid,[]⟩,⟨.slice none 0 0, .slice none 0 0, .slice none 0 0⟩):Ah)).1.head,(((⟨[],[],[],zid,[]⟩,⟨.slice none 0 0, .slice none 0 0, .slice none 0 0⟩):Ah)).1.at_,[]⟩,⟨vb1,vb2,(Value.slice none 0 0)⟩):Ah) ae ((y.1.tags.take i2)++ [(⟨(((y.1.tags).getD (i2) dNmd).name),((y.1.tags).getD (i2) dNmd).id⟩:AK)]));clear bs
  have fg:=bl hm2
  refine oZ (bN (tN (c8 _ _ (wt (oM rfl (oS rfl (Yk.bin (xv:=NI i2) (yv:=NI 1) T5 rfl rfl (AA _ _ _ (by omega)) (oA rfl (A3 [(0, .agg (refsC y).toArray),(1,PQ l 0),(2,PQ u 0),(3,PQ j 0),(4,NI i1),(5,NI ((i2)+(1)))] ⟨r,o,t,p,q,rfl,trivial⟩ fun du ⟨r,o,t,p,q,T5,_⟩=>(tN (And.intro ⟨i2+1,ae,r,o,t,p,q,T5,hE,c,f,g,hm2,CR an (Fx c7),by omega,dq,dr,br,ds,trivial⟩ ?_)))))))))))
  show y.1.tags.length-(intOf (du 5)).toNat<y.1.tags.length-(intOf (c4 5)).toNat
  rw[T5,q5]
  simp only[intOf,Int.toNat_natCast];omega
 refine AP (Ar (Ar (Az (tN (c2 _ _ (sk fun fh dv=> ?_))))))
 have aj:Ext bm (World.drew bm):=(Below.refl _ _).drew
 have hE:=hE.trans aj
 have c:=eb aj c
 have f:=eb aj f
 have g:=g.keep aj
 have hm2:=eb aj hm2
 have s:=s.keep aj
 refine Fw [(0,56,PQ l 2),(1,57,St (y.1.head)),(2,58,PQ l 3),(3,59,AB y.1.at_.1),(4,60,PQ j 2),(6,61,PQ j 3)] [5,7] (fun wz=>Ext w wz∧wz.heap[l]? =some (.cells (refsC y).toArray 27 (0,0))∧wz.heap[u]? =some (.cells (refsC ((⟨[],[],[],zid,[]⟩,⟨.slice none 0 0, .slice none 0 0, .slice none 0 0⟩):Ah)).toArray 35 (0,0))∧True) (by kernel_rfl) (by kernel_rfl) (by kernel_rfl) ⟨hE,c,f,trivial⟩ ⟨fun ap ⟨hE,c,f,_⟩=>Yk.fieldAt HY o ⟨rfl,rfl⟩,fun ap ⟨hE,c,f,_⟩=>Yk.cell1 DT rfl (vr (PQ l 2) rfl) (Al c (show(refsC y)[2]? =some (St (y.1.head):Value)from Cq y)) ⟨rfl,rfl⟩,fun ap ⟨hE,c,f,_⟩=>Yk.fieldAt H0 o ⟨rfl,rfl⟩,fun ap ⟨hE,c,f,_⟩=>Yk.loadPR (PR.blk c (B7 y) (Cm y) (vr (PQ l 3) rfl)) P8 rfl (At y.1.at_.2) ⟨rfl,rfl⟩,fun ap ⟨hE,c,f,_⟩=>Yk.fieldAt FK p ⟨rfl,rfl⟩,fun ap ⟨hE,c,f,_⟩=>Yk.fieldAt HM p ⟨rfl,rfl⟩,trivial⟩ (Ch rfl (Yk.storeC (i:=2) (v:=St (y.1.head)) (vr (PQ j 2) rfl) (vr (St (y.1.head)) rfl) hm2 (by rw[Ao];decide) Ob rfl rfl fun dw bt aq fi=> ?_))
 have hE:=Af hE aq (Nat.le_trans ak (by omega))
 have c:=kb aq c (by omega)
 have f:=kb aq f (by omega)
 have g:=OG.kept g aq hap_vb1_n23
 have s:=OG.kept s aq hap_vb2_n23
 clear hm2
 have hm2:dw.heap[j]? =some (.cells (refsC ((⟨(y.1.branches.take i1),(y.1.tags.take i2),y.1.head,(((⟨[],[],[],zid,[]⟩,⟨.slice none 0 0, .slice none 0 0, .slice none 0 0⟩):Ah)).1.at_,[]⟩,⟨vb1,vb2,(Value.slice none 0 0)⟩):Ah)).toArray 35 (0,0)):=AG bt (FZ ((⟨(y.1.branches.take i1),(y.1.tags.take i2),(((⟨[],[],[],zid,[]⟩,⟨.slice none 0 0, .slice none 0 0, .slice none 0 0⟩):Ah)).1.head,(((⟨[],[],[],zid,[]⟩,⟨.slice none 0 0, .slice none 0 0, .slice none 0 0⟩):Ah)).1.at_,[]⟩,⟨vb1,vb2,(Value.slice none 0 0)⟩):Ah) y.1.head);clear bt
 have fj:=bl hm2
 refine⟨.inr ⟨hE,c,f,trivial⟩,?_⟩
 refine Ch rfl (Yk.storeMid (a:=Dq ((⟨(y.1.branches.take i1),(y.1.tags.take i2),y.1.head,(((⟨[],[],[],zid,[]⟩,⟨.slice none 0 0, .slice none 0 0, .slice none 0 0⟩):Ah)).1.at_,[]⟩,⟨vb1,vb2,(Value.slice none 0 0)⟩):Ah)) (m:=Lib.byteCells ((((⟨[],[],[],zid,[]⟩,⟨.slice none 0 0, .slice none 0 0, .slice none 0 0⟩):Ah)).1.at_).1) (z:=D0 ((⟨(y.1.branches.take i1),(y.1.tags.take i2),y.1.head,(((⟨[],[],[],zid,[]⟩,⟨.slice none 0 0, .slice none 0 0, .slice none 0 0⟩):Ah)).1.at_,[]⟩,⟨vb1,vb2,(Value.slice none 0 0)⟩):Ah)) (cells:=Lib.byteCells y.1.at_.1) (vr (PQ j 3) rfl) (vr (AB y.1.at_.1) rfl) (B7 ((⟨(y.1.branches.take i1),(y.1.tags.take i2),y.1.head,(((⟨[],[],[],zid,[]⟩,⟨.slice none 0 0, .slice none 0 0, .slice none 0 0⟩):Ah)).1.at_,[]⟩,⟨vb1,vb2,(Value.slice none 0 0)⟩):Ah)▸hm2) (Cm ((⟨(y.1.branches.take i1),(y.1.tags.take i2),y.1.head,(((⟨[],[],[],zid,[]⟩,⟨.slice none 0 0, .slice none 0 0, .slice none 0 0⟩):Ah)).1.at_,[]⟩,⟨vb1,vb2,(Value.slice none 0 0)⟩):Ah)) (by rw[Lib.byteCells_length,Lib.byteCells_length,((((⟨[],[],[],zid,[]⟩,⟨.slice none 0 0, .slice none 0 0, .slice none 0 0⟩):Ah)).1.at_).2,y.1.at_.2]) (by rw[Lib.byteCells_length,y.1.at_.2];exact Nw) (Ay _) fun ar bu au fk=> ?_)
 have hE:=Af hE au (Nat.le_trans ak (by omega))
 have c:=kb au c (by omega)
 have f:=kb au f (by omega)
 have g:=OG.kept g au hap_vb1_n23
 have s:=OG.kept s au hap_vb2_n23
 clear hm2
 have hm2:ar.heap[j]? =some (.cells (refsC ((⟨(y.1.branches.take i1),(y.1.tags.take i2),y.1.head,y.1.at_,[]⟩,⟨vb1,vb2,(Value.slice none 0 0)⟩):Ah)).toArray 35 (0,0)):=AG bu (F0 ((⟨(y.1.branches.take i1),(y.1.tags.take i2),y.1.head,(((⟨[],[],[],zid,[]⟩,⟨.slice none 0 0, .slice none 0 0, .slice none 0 0⟩):Ah)).1.at_,[]⟩,⟨vb1,vb2,(Value.slice none 0 0)⟩):Ah) y.1.at_);clear bu
 have fl:=bl hm2
 refine⟨.inl rfl,?_⟩
 refine Hr (tN (dv _ _ (sk fun fm dx=>(wt (oS rfl (Yk.fieldAt HK p (oS rfl (Yk.cell1 EA rfl (vr (PQ j 35) rfl) (Al hm2 (show(refsC ((⟨(y.1.branches.take i1),(y.1.tags.take i2),y.1.head,y.1.at_,[]⟩,⟨vb1,vb2,(Value.slice none 0 0)⟩):Ah))[35]? =some ((Value.slice none 0 0):Value)from Bn ((⟨(y.1.branches.take i1),(y.1.tags.take i2),y.1.head,y.1.at_,[]⟩,⟨vb1,vb2,(Value.slice none 0 0)⟩):Ah))) (oS rfl (Yk.fieldAt Eo o (oS rfl (Yk.cell1 EA rfl (vr (PQ l 35) rfl) (Al c (show(refsC y)[35]? =some (y.2.log:Value)from Bn y)) ?_))))))))))))
 have bv:=Ext.refl ar
 have fo:=hE.size
 refine oS rfl (Yk.appendRG _ _ ar.heap.size _ 104 EA wr30_ig50.choose_spec.1 wr30_ig50.choose_spec.2 EA ([]) (y.1.log) (OG.of (OG.nil _ _ _ _ _) (vr (Value.slice none 0 0) rfl)) (RG.of (hml.keep hE) (vr y.2.log rfl)) (fun _ _=>C7) (by simp only[List.length_nil];omega) (by simp only[List.length_nil];omega) bv.size fun aa bw af a7=> ?_)
 have a7:Grew ar bw (.slice none 0 0) aa:=a7
 have fp:=(bl c)
 have dy:=(bl f)
 have dz:=(bl hm2)
 have hx_:Ext ar bw:=Ext.of (by have:=a7.by_;exact this)
 have hE:=hE.trans hx_
 have f:=eb hx_ f
 have g:=g.keep hx_
 have s:=s.keep hx_
 have hm2:=eb hx_ hm2
 have d0:OB aa u:=Be af.2 dy
 have d1:OB aa j:=Be af.2 dz
 refine oS rfl (Yk.fieldAt HK p (oS rfl (Yk.storeC (i:=35) (v:=aa) (vr (PQ j 35) rfl) (vr aa rfl) hm2 (by rw[Ao];decide) Gp (RG.one (RG.ofOwn af)).1 (RG.one (RG.ofOwn af)).2 fun d2 bx av fq=> ?_)))
 have hE:=Af hE av (Nat.le_trans ak (by omega))
 have f:=kb av f (by omega)
 have g:=OG.kept g av hap_vb1_n23
 have s:=OG.kept s av hap_vb2_n23
 clear bv
 have af:=OG.kept af av d1
 clear hm2
 have hm2:d2.heap[j]? =some (.cells (refsC ((⟨(y.1.branches.take i1),(y.1.tags.take i2),y.1.head,y.1.at_,([])++y.1.log⟩,⟨vb1,vb2,aa⟩):Ah)).toArray 35 (0,0)):=AG bx (D1 ((⟨(y.1.branches.take i1),(y.1.tags.take i2),y.1.head,y.1.at_,[]⟩,⟨vb1,vb2,(Value.slice none 0 0)⟩):Ah) aa (([])++y.1.log));clear bx
 have fr:=bl hm2
 refine oZ (tN (dx _ _ (sk fun fs d3=>(wt (oS rfl (Yk.loadAll p hm2 (N9).choose_spec rfl (AC (Ao ((⟨(y.1.branches.take i1),(y.1.tags.take i2),y.1.head,y.1.at_,([])++y.1.log⟩,⟨vb1,vb2,aa⟩):Ah)) IJ) (oS rfl (Yk.storeAll t (vr (.agg (refsC ((⟨(y.1.branches.take i1),(y.1.tags.take i2),y.1.head,y.1.at_,([])++y.1.log⟩,⟨vb1,vb2,aa⟩):Ah)).toArray) rfl) f (by simp only[List.size_toArray,Ao]) (AC (Ao _) IJ) (Br (x:=((⟨(y.1.branches.take i1),(y.1.tags.take i2),y.1.head,y.1.at_,([])++y.1.log⟩,⟨vb1,vb2,aa⟩):Ah)) (RG.one (RG.ofOwn g)).2 (RG.one (RG.ofOwn s)).2 (RG.one (RG.ofOwn af)).2) fun d4 bz aw ft=> ?_))))))))
 have hE:=Af hE aw (Nat.le_trans b6 (by omega))
 have g:=OG.kept g aw hap_vb1_n10
 have s:=OG.kept s aw hap_vb2_n10
 have af:=OG.kept af aw d0
 have hm2:=kb aw hm2 (by omega)
 clear f
 have f:d4.heap[u]? =some (.cells (refsC ((⟨(y.1.branches.take i1),(y.1.tags.take i2),y.1.head,y.1.at_,([])++y.1.log⟩,⟨vb1,vb2,aa⟩):Ah)).toArray 35 (0,0)):=bz;clear bz
 have fu:=bl f
 refine oZ (tN (d3 _ _ (Am (Aj (fn:=Tryz.f6) _ rfl [.agg (refsC ((⟨(y.1.branches.take i1),(y.1.tags.take i2),y.1.head,y.1.at_,([])++y.1.log⟩,⟨vb1,vb2,aa⟩):Ah)).toArray] (.agg (refsC ((⟨(y.1.branches.take i1),(y.1.tags.take i2),y.1.head,y.1.at_,([])++y.1.log⟩,⟨vb1,vb2,aa⟩):Ah)).toArray) rfl ⟨ResF.row t f (N9).choose_spec rfl (AC (Ao _) IJ),trivial⟩ ?_))))
 have e1:y.1.branches.take i1=y.1.branches:=List.take_of_length_le (by omega)
 have e2:y.1.tags.take i2=y.1.tags:=List.take_of_length_le (by omega)
 refine⟨⟨_,_,_⟩,?_,⟨RG.ofOwn (CR g e1),RG.ofOwn (CR s e2),RG.ofOwn (CR af (by simp))⟩,hE⟩
 rw[e1,e2];rfl

theorem Gr(w:World)(y:Ah)(hm:RefsAt w y)(hc:y.1.branches.length≤80∧y.1.tags.length≤80∧y.1.log.length≤80):
  Calls Tryz.prog 11 #[.agg (refsC y).toArray] w fun e w' =>∃z,e = .returned (.agg (refsC (y.1,z)).toArray)∧RefsAt w' (y.1,z)∧Ext w w' :=by
 have hmt:=hm.branches
 have hmg:=hm.tags
 have hml:=hm.log
 obtain⟨az,d5,d6⟩:=hc
 refine As (args:= [.agg (refsC y).toArray]) Tryz.func11 rfl 69 rfl (Nat.le_of_ble_eq_true rfl) ?_
 intro b1 hb
 have r:b1 0=(.agg (refsC y).toArray:Value):=hb.get 0
 clear hb
 have hE:=Ext.refl w
 refine sk fun K1 b2=>(wt (oS rfl (Yk.box (cs:=(refsC y:List Value).toArray) r fun l w3 d8 a9 b3 d9=> ?_)))
 have hE:=hE.trans b3
 have c:=a9;clear a9
 have ea:l<w3.heap.size:=by omega
 refine oS rfl (Yk.alloc (cs:=(refsC ((⟨[],[],[],zid,[]⟩,⟨.slice none 0 0, .slice none 0 0, .slice none 0 0⟩):Ah)).toArray) JX fun u b4 b5 ba a0 ec=> ?_)
 have ax:=Ext.refl w3
 have b6:=hE.size
 have ed:=Bc (bl c) b5
 have hE:=hE.trans a0
 have c:=eb a0 c
 have ax:=ax.trans a0
 have f:=ba;clear ba
 have ee:u<b4.heap.size:=by omega
 refine oZ (tN (b2 _ _ (sk fun ef b7=>(wt (oS rfl (Yk.alloc (cs:=(refsC ((⟨[],[],[],zid,[]⟩,⟨.slice none 0 0, .slice none 0 0, .slice none 0 0⟩):Ah)).toArray) JX fun j b8 bb bc a1 eg=> ?_))))))
 have ak:=hE.size
 have eh:=ax.size
 have ei:=Bc (bl c) bb
 have ej:=Bc (bl f) bb
 have hE:=hE.trans a1
 have c:=eb a1 c
 have f:=eb a1 f
 have bd:=bc;clear bc
 have el:j<b8.heap.size:=by omega
 refine oZ (tN (b7 _ _ (sk fun em b9=>(sk fun en ca=>(wt (oA rfl (A3 [(0, .agg (refsC y).toArray),(1,PQ l 0),(2,PQ u 0),(3,PQ j 0),(4,NI 0)] ⟨r,rfl,rfl,rfl,rfl,trivial⟩ fun eo ⟨r,o,t,p,q,_⟩=>(tN (ca _ _ (Av (A4 (fun(ρ:Au) (wz:World)=>∃i1:Nat,∃vb1:Value,ρ 0=(.agg (refsC y).toArray:Value)∧ρ 1=(PQ l 0:Value)∧ρ 2=(PQ u 0:Value)∧ρ 3=(PQ j 0:Value)∧ρ 4=(NI i1:Value)∧Ext w wz∧wz.heap[l]? =some (.cells (refsC y).toArray 35 (0,0))∧wz.heap[u]? =some (.cells (refsC ((⟨[],[],[],zid,[]⟩,⟨.slice none 0 0, .slice none 0 0, .slice none 0 0⟩):Ah)).toArray 27 (0,0))∧wz.heap[j]? =some (.cells (refsC ((⟨(y.1.branches.take i1),[],(((⟨[],[],[],zid,[]⟩,⟨.slice none 0 0, .slice none 0 0, .slice none 0 0⟩):Ah)).1.head,(((⟨[],[],[],zid,[]⟩,⟨.slice none 0 0, .slice none 0 0, .slice none 0 0⟩):Ah)).1.at_,[]⟩,⟨vb1,(Value.slice none 0 0),(Value.slice none 0 0)⟩):Ah)).toArray 27 (0,0))∧OG w.heap.size 61 33 (nmdC) wz vb1 (y.1.branches.take i1)∧(i1≤y.1.branches.length)∧(OB vb1 l)∧(OB vb1 u)∧(OB vb1 j)∧True) (fun ρ _=>y.1.branches.length-(intOf (ρ 4)).toNat) ⟨0,(Value.slice none 0 0),r,o,t,p,q,hE,c,f,bd,OG.nil _ _ _ _ _,Nat.zero_le _,(fun h=>by cases h),(fun h=>by cases h),(fun h=>by cases h),trivial⟩ ?_)))))))))))
 clear ax
 clear bd
 clear hE c f
 rintro cb ep ⟨i1,vb1,r,o,t,p,q,hE,c,f,hm1,g,hi1,hap_vb1_n2,hap_vb1_n10,hap_vb1_n23,-⟩
 have q4:=q
 have eq:=(bl c)
 have er:=(bl f)
 have es:=(bl hm1)
 refine sk fun et cc=>(sk fun eu cd=>(wt (oM rfl (oS rfl (Yk.fieldAt LU o (oS rfl (Yk.cell1 D5 rfl (vr (PQ l 0) rfl) (Al c (show(refsC y)[0]? =some (y.2.branches:Value)from BN y)) (oS rfl (Yk.lenRG D5 (RG.of (hmt.keep hE) (vr y.2.branches rfl)) (oS rfl (Yk.eqI (a:=(i1:Nat)) (b:=((y.1.branches).length:Nat)) q rfl (AX _ _ _ _) (oZ (tN (cd _ _ ?_))))))))))))))
 refine AL ((i1)<((y.1.branches).length)) (vr (.bool (decide ((i1)<((y.1.branches).length)))) rfl) (fun be=> ?_) (fun be=> ?_)
 ·have ce:i1<y.1.branches.length:=be
  refine Aq (tN (cc _ _ (sk fun ew cf=>(Av ?_))))
  refine Cw 16 [Is (PQ j 0),Is (vb1),Is (PQ l 0),Is (y.2.branches),Is (NI i1),fun x w' =>PR (nmdC ((y.1.branches).getD (i1) dNmd)) x w',PCell (St (((y.1.branches).getD (i1) dNmd).name)),Is (St (((y.1.branches).getD (i1) dNmd).name)),Is (PQ l 0),Is (y.2.branches),Is (NI i1),fun x w' =>PR (nmdC ((y.1.branches).getD (i1) dNmd)) x w',fun x w' =>PR (Lib.byteCells ((y.1.branches).getD (i1) dNmd).id.1) x w',Is (AB (((y.1.branches).getD (i1) dNmd).id.1)),Is (.agg (nmdC (⟨(((y.1.branches).getD (i1) dNmd).name),((y.1.branches).getD (i1) dNmd).id⟩:AK)).toArray),fun x w' =>RG 33 (nmdC) w' x ([(⟨(((y.1.branches).getD (i1) dNmd).name),((y.1.branches).getD (i1) dNmd).id⟩:AK)])] (by kernel_rfl) [13,14,15,16,17,18,19,20,21,22,23,24,25,26,27,28,29,30] (by kernel_rfl) (by kernel_rfl) (by kernel_rfl) (by kernel_rfl) rfl rfl (Mh ⟨(fun _ _ _ h k=>PR.keep h k),Stab.pcell _,(EJ ⟨(fun _ _ _ h k=>PR.keep h k),(fun _ _ _ h k=>PR.keep h k),(DG ⟨(fun _ _ _ h k=>RG.keep h k),trivial⟩)⟩)⟩) ?cg ?hQ2005
  case cg=>
   refine⟨?_,?_,?_,?_,?_,?_,?_,?_,?_,?_,?_,?_,?_,?_,?_,?_,?_,?_,?_,trivial⟩
   ·refine Ax (Aa rfl fun σ w1 hC h=> ?_)
    have e3:=(Ae (h 3 (by decide))).trans p
    exact Yk.fieldAt L5 e3 ⟨Ext.refl _,rfl⟩
   ·refine Ax (Aa rfl fun σ w1 hC h=> ?_)
    have ch:=Ae (h 13 (by decide))
    exact Yk.cell1 Fz rfl ch (Al (eb hC hm1) (show(refsC ((⟨(y.1.branches.take i1),[],(((⟨[],[],[],zid,[]⟩,⟨.slice none 0 0, .slice none 0 0, .slice none 0 0⟩):Ah)).1.head,(((⟨[],[],[],zid,[]⟩,⟨.slice none 0 0, .slice none 0 0, .slice none 0 0⟩):Ah)).1.at_,[]⟩,⟨vb1,(Value.slice none 0 0),(Value.slice none 0 0)⟩):Ah))[0]? =some (vb1:Value)from BN ((⟨(y.1.branches.take i1),[],(((⟨[],[],[],zid,[]⟩,⟨.slice none 0 0, .slice none 0 0, .slice none 0 0⟩):Ah)).1.head,(((⟨[],[],[],zid,[]⟩,⟨.slice none 0 0, .slice none 0 0, .slice none 0 0⟩):Ah)).1.at_,[]⟩,⟨vb1,(Value.slice none 0 0),(Value.slice none 0 0)⟩):Ah))) ⟨Ext.refl _,rfl⟩
   ·refine Ax (Aa rfl fun σ w1 hC h=> ?_)
    have e1:=(Ae (h 1 (by decide))).trans o
    exact Yk.fieldAt LU e1 ⟨Ext.refl _,rfl⟩
   ·refine Ax (Aa rfl fun σ w1 hC h=> ?_)
    have ci:=Ae (h 15 (by decide))
    exact Yk.cell1 D5 rfl ci (Al (eb hC c) (show(refsC y)[0]? =some (y.2.branches:Value)from BN y)) ⟨Ext.refl _,rfl⟩
   ·refine Ax (Aa rfl fun σ w1 hC h=> ?_)
    have e4:=(Ae (h 4 (by decide))).trans q
    exact Yk.move e4 ⟨Ext.refl _,rfl⟩
   ·refine Ax (Aa rfl fun σ w1 hC h=> ?_)
    have cj:=Ae (h 16 (by decide))
    have ck:=Ae (h 17 (by decide))
    exact Yk.atRG D5 Iw (by decide) dNmd (RG.of (hmt.keep (hE.trans hC)) cj) ck (by omega) fun v h=>⟨Ext.refl _,h⟩
   ·refine Ax (Aa rfl fun σ w1 hC h=> ?_)
    have cl:(fun x w' =>PR (nmdC ((y.1.branches).getD (i1) dNmd)) x w') (σ 18) w1:=h 18 (by decide)
    exact Yk.fieldPR (n:=1) FJ cl fun v h=>⟨Ext.refl _,PR.pcell (by rw[DJ]at h;exact h)⟩
   ·refine Ax (Aa rfl fun σ w1 hC h=> ?_)
    have cm:(PCell (St (((y.1.branches).getD (i1) dNmd).name))) (σ 19) w1:=h 19 (by decide)
    exact Yk.loadC DT rfl cm ⟨Ext.refl _,rfl⟩
   ·refine Ax (Aa rfl fun σ w1 hC h=> ?_)
    have e1:=(Ae (h 1 (by decide))).trans o
    exact Yk.fieldAt LU e1 ⟨Ext.refl _,rfl⟩
   ·refine Ax (Aa rfl fun σ w1 hC h=> ?_)
    have cn:=Ae (h 21 (by decide))
    exact Yk.cell1 D5 rfl cn (Al (eb hC c) (show(refsC y)[0]? =some (y.2.branches:Value)from BN y)) ⟨Ext.refl _,rfl⟩
   ·refine Ax (Aa rfl fun σ w1 hC h=> ?_)
    have e4:=(Ae (h 4 (by decide))).trans q
    exact Yk.move e4 ⟨Ext.refl _,rfl⟩
   ·refine Ax (Aa rfl fun σ w1 hC h=> ?_)
    have co:=Ae (h 22 (by decide))
    have cp:=Ae (h 23 (by decide))
    exact Yk.atRG D5 Iw (by decide) dNmd (RG.of (hmt.keep (hE.trans hC)) co) cp (by omega) fun v h=>⟨Ext.refl _,h⟩
   ·refine Ax (Aa rfl fun σ w1 hC h=> ?_)
    have cq:(fun x w' =>PR (nmdC ((y.1.branches).getD (i1) dNmd)) x w') (σ 24) w1:=h 24 (by decide)
    exact Yk.fieldPR (n:=32) LT cq fun v h=>⟨Ext.refl _,by rw[Ee]at h;exact h⟩
   ·refine Ax (Aa rfl fun σ w1 hC h=> ?_)
    have cr:(fun x w' =>PR (Lib.byteCells ((y.1.branches).getD (i1) dNmd).id.1) x w') (σ 25) w1:=h 25 (by decide)
    exact Yk.loadPR cr P8 rfl (by rw[Lib.byteCells_length,((y.1.branches).getD (i1) dNmd).id.2];exact Nw) ⟨Ext.refl _,rfl⟩
   ·refine Ax (Aa rfl fun σ w1 hC h=> ?_)
    have ct:=Ae (h 20 (by decide))
    have cu:=Ae (h 26 (by decide))
    exact Yk.build2 ct cu (fun w=>GG (((y.1.branches).getD (i1) dNmd).name) (((y.1.branches).getD (i1) dNmd).id) w) ⟨Ext.refl _,rfl⟩
   ·refine Ax (Aa rfl fun σ w1 hC h=> ?_)
    have cv:=Ae (h 27 (by decide))
    exact Yk.lit1G (a:=(⟨(((y.1.branches).getD (i1) dNmd).name),((y.1.branches).getD (i1) dNmd).id⟩:AK)) (enc:=nmdC) cv (Bq _) JY fun v w2 h hx=>⟨hx,h⟩
   ·exact trivial
   ·exact trivial
   ·exact trivial
  intro a4 bf al he hf
  obtain⟨-,k14,-,-,-,-,-,-,-,-,-,-,-,-,-,k28,-⟩:=hf
  obtain⟨r,o,t,p,q,-⟩:=he.hold [(0,_),(1,_),(2,_),(3,_),(4,_)] ⟨r,o,t,p,q,trivial⟩ rfl
  clear he
  have hE:=hE.trans al
  have c:=eb al c
  have f:=eb al f
  have hm1:=eb al hm1
  have g:=g.keep al
  have bg:a4 14=vb1:=k14
  have k28:(fun x w' =>RG 33 (nmdC) w' x ([(⟨(((y.1.branches).getD (i1) dNmd).name),((y.1.branches).getD (i1) dNmd).id⟩:AK)])) (a4 28) bf:=k28
  obtain⟨ex,bh⟩:∃v,a4 28=v:=⟨_,rfl⟩
  rw[bh]at k28
  have bi:=k28;clear k28
  clear k14
  refine oS rfl (Yk.appendRG _ _ w.heap.size _ 48 Fz wr28_ig61.choose_spec.1 wr28_ig61.choose_spec.2 Fz (y.1.branches.take i1) ([(⟨(((y.1.branches).getD (i1) dNmd).name),((y.1.branches).getD (i1) dNmd).id⟩:AK)]) (OG.of g bg) (RG.of bi bh) (fun _ _=>CL) (by simp only[List.length_take,List.length_append,List.length_cons,List.length_nil];omega) (by simp only[List.length_take,List.length_append,List.length_cons,List.length_nil];omega) hE.size fun ag cx am ah=> ?_)
  have ah:Grew bf cx vb1 ag:= .eqv bg ah
  have cy:OB ag l:=AU ah hap_vb1_n2 (bl c)
  have cz:OB ag u:=AU ah hap_vb1_n10 (bl f)
  have bj:OB ag j:=AU ah hap_vb1_n23 (bl hm1)
  have hE:=AZ hE ah g.2 (Nat.le_refl _)
  have c:=AN c ah hap_vb1_n2
  have f:=AN f ah hap_vb1_n10
  have hm1:=AN hm1 ah hap_vb1_n23
  clear bi
  clear g
  refine oS rfl (Yk.fieldAt L5 p (oS rfl (Yk.storeC (i:=0) (v:=ag) (vr (PQ j 0) rfl) (vr ag rfl) hm1 (by rw[Ao];decide) IP (RG.one (RG.ofOwn am)).1 (RG.one (RG.ofOwn am)).2 fun c0 bk ay ey=> ?_)))
  have hE:=Af hE ay (Nat.le_trans ak (by omega))
  have c:=kb ay c (by omega)
  have f:=kb ay f (by omega)
  have am:=OG.kept am ay bj
  clear hm1
  have hm1:c0.heap[j]? =some (.cells (refsC ((⟨(y.1.branches.take i1)++ [(⟨(((y.1.branches).getD (i1) dNmd).name),((y.1.branches).getD (i1) dNmd).id⟩:AK)],[],(((⟨[],[],[],zid,[]⟩,⟨.slice none 0 0, .slice none 0 0, .slice none 0 0⟩):Ah)).1.head,(((⟨[],[],[],zid,[]⟩,⟨.slice none 0 0, .slice none 0 0, .slice none 0 0⟩):Ah)).1.at_,[]⟩,⟨ag,(Value.slice none 0 0),(Value.slice none 0 0)⟩):Ah)).toArray 27 (0,0)):=AG bk (E2 ((⟨(y.1.branches.take i1),[],(((⟨[],[],[],zid,[]⟩,⟨.slice none 0 0, .slice none 0 0, .slice none 0 0⟩):Ah)).1.head,(((⟨[],[],[],zid,[]⟩,⟨.slice none 0 0, .slice none 0 0, .slice none 0 0⟩):Ah)).1.at_,[]⟩,⟨vb1,(Value.slice none 0 0),(Value.slice none 0 0)⟩):Ah) ag ((y.1.branches.take i1)++ [(⟨(((y.1.branches).getD (i1) dNmd).name),((y.1.branches).getD (i1) dNmd).id⟩:AK)]));clear bk
  have ez:=bl hm1
  refine oZ (bN (tN (cf _ _ (wt (oM rfl (oS rfl (Yk.bin (xv:=NI i1) (yv:=NI 1) q rfl rfl (AA _ _ _ (by omega)) (oA rfl (A3 [(0, .agg (refsC y).toArray),(1,PQ l 0),(2,PQ u 0),(3,PQ j 0),(4,NI ((i1)+(1)))] ⟨r,o,t,p,rfl,trivial⟩ fun c1 ⟨r,o,t,p,q,_⟩=>(tN (And.intro ⟨i1+1,ag,r,o,t,p,q,hE,c,f,hm1,CR am (Fx ce),by omega,cy,cz,bj,trivial⟩ ?_)))))))))))
  show y.1.branches.length-(intOf (c1 4)).toNat<y.1.branches.length-(intOf (cb 4)).toNat
  rw[q,q4]
  simp only[intOf,Int.toNat_natCast];omega
 refine AP (Ar (Ar (Az (tN (b9 _ _ (sk fun e0 c2=>(sk fun e6 c3=>(wt (oA rfl (A3 [(0, .agg (refsC y).toArray),(1,PQ l 0),(2,PQ u 0),(3,PQ j 0),(4,NI i1),(5,NI 0)] ⟨r,o,t,p,q,rfl,trivial⟩ fun e7 ⟨r,o,t,p,q,T5,_⟩=>(tN (c3 _ _ (Av (A4 (fun(ρ:Au) (wz:World)=>∃i2:Nat,∃vb2:Value,ρ 0=(.agg (refsC y).toArray:Value)∧ρ 1=(PQ l 0:Value)∧ρ 2=(PQ u 0:Value)∧ρ 3=(PQ j 0:Value)∧ρ 4=(NI i1:Value)∧ρ 5=(NI i2:Value)∧Ext w wz∧wz.heap[l]? =some (.cells (refsC y).toArray 35 (0,0))∧wz.heap[u]? =some (.cells (refsC ((⟨[],[],[],zid,[]⟩,⟨.slice none 0 0, .slice none 0 0, .slice none 0 0⟩):Ah)).toArray 27 (0,0))∧OG w.heap.size 61 33 (nmdC) wz vb1 (y.1.branches.take i1)∧wz.heap[j]? =some (.cells (refsC ((⟨(y.1.branches.take i1),(y.1.tags.take i2),(((⟨[],[],[],zid,[]⟩,⟨.slice none 0 0, .slice none 0 0, .slice none 0 0⟩):Ah)).1.head,(((⟨[],[],[],zid,[]⟩,⟨.slice none 0 0, .slice none 0 0, .slice none 0 0⟩):Ah)).1.at_,[]⟩,⟨vb1,vb2,(Value.slice none 0 0)⟩):Ah)).toArray 27 (0,0))∧OG w.heap.size 61 33 (nmdC) wz vb2 (y.1.tags.take i2)∧(i2≤y.1.tags.length)∧(OB vb2 l)∧(OB vb2 u)∧(OB vb2 j)∧(CD vb2 vb1)∧True) (fun ρ _=>y.1.tags.length-(intOf (ρ 5)).toNat) ⟨0,(Value.slice none 0 0),r,o,t,p,q,T5,hE,c,f,g,hm1,OG.nil _ _ _ _ _,Nat.zero_le _,(fun h=>by cases h),(fun h=>by cases h),(fun h=>by cases h),(fun k h=>by cases h),trivial⟩ ?_))))))))))))))
 clear hm1
 clear hE c f g
 rintro c4 bm ⟨i2,vb2,r,o,t,p,q,T5,hE,c,f,g,hm2,s,hi2,hap_vb2_n2,hap_vb2_n10,hap_vb2_n23,hap_vb2_vb1,-⟩
 have q5:=T5
 have e8:=(bl c)
 have e9:=(bl f)
 have fa:=(bl hm2)
 refine sk fun fb c5=>(sk fun fc c6=>(wt (oM rfl (oS rfl (Yk.fieldAt LV o (oS rfl (Yk.cell1 D5 rfl (vr (PQ l 1) rfl) (Al c (show(refsC y)[1]? =some (y.2.tags:Value)from B6 y)) (oS rfl (Yk.lenRG D5 (RG.of (hmg.keep hE) (vr y.2.tags rfl)) (oS rfl (Yk.eqI (a:=(i2:Nat)) (b:=((y.1.tags).length:Nat)) T5 rfl (AX _ _ _ _) (oZ (tN (c6 _ _ ?_))))))))))))))
 refine AL ((i2)<((y.1.tags).length)) (vr (.bool (decide ((i2)<((y.1.tags).length)))) rfl) (fun az=> ?_) (fun az=> ?_)
 ·have c7:i2<y.1.tags.length:=az
  refine Aq (tN (c5 _ _ (sk fun fd c8=>(Av ?_))))
  refine Cw 16 [Is (PQ j 1),Is (vb2),Is (PQ l 1),Is (y.2.tags),Is (NI i2),fun x w' =>PR (nmdC ((y.1.tags).getD (i2) dNmd)) x w',PCell (St (((y.1.tags).getD (i2) dNmd).name)),Is (St (((y.1.tags).getD (i2) dNmd).name)),Is (PQ l 1),Is (y.2.tags),Is (NI i2),fun x w' =>PR (nmdC ((y.1.tags).getD (i2) dNmd)) x w',fun x w' =>PR (Lib.byteCells ((y.1.tags).getD (i2) dNmd).id.1) x w',Is (AB (((y.1.tags).getD (i2) dNmd).id.1)),Is (.agg (nmdC (⟨(((y.1.tags).getD (i2) dNmd).name),((y.1.tags).getD (i2) dNmd).id⟩:AK)).toArray),fun x w' =>RG 33 (nmdC) w' x ([(⟨(((y.1.tags).getD (i2) dNmd).name),((y.1.tags).getD (i2) dNmd).id⟩:AK)])] (by kernel_rfl) [38,39,40,41,42,43,44,45,46,47,48,49,50,51,52,53,54,55] (by kernel_rfl) (by kernel_rfl) (by kernel_rfl) (by kernel_rfl) rfl rfl (Mh ⟨(fun _ _ _ h k=>PR.keep h k),Stab.pcell _,(EJ ⟨(fun _ _ _ h k=>PR.keep h k),(fun _ _ _ h k=>PR.keep h k),(DG ⟨(fun _ _ _ h k=>RG.keep h k),trivial⟩)⟩)⟩) ?c9 ?hQ3009
  case c9=>
   refine⟨?_,?_,?_,?_,?_,?_,?_,?_,?_,?_,?_,?_,?_,?_,?_,?_,?_,?_,?_,trivial⟩
   ·refine Ax (Aa rfl fun σ w1 hC h=> ?_)
    have e3:=(Ae (h 3 (by decide))).trans p
    exact Yk.fieldAt L6 e3 ⟨Ext.refl _,rfl⟩
   ·refine Ax (Aa rfl fun σ w1 hC h=> ?_)
    have da:=Ae (h 38 (by decide))
    exact Yk.cell1 Fz rfl da (Al (eb hC hm2) (show(refsC ((⟨(y.1.branches.take i1),(y.1.tags.take i2),(((⟨[],[],[],zid,[]⟩,⟨.slice none 0 0, .slice none 0 0, .slice none 0 0⟩):Ah)).1.head,(((⟨[],[],[],zid,[]⟩,⟨.slice none 0 0, .slice none 0 0, .slice none 0 0⟩):Ah)).1.at_,[]⟩,⟨vb1,vb2,(Value.slice none 0 0)⟩):Ah))[1]? =some (vb2:Value)from B6 ((⟨(y.1.branches.take i1),(y.1.tags.take i2),(((⟨[],[],[],zid,[]⟩,⟨.slice none 0 0, .slice none 0 0, .slice none 0 0⟩):Ah)).1.head,(((⟨[],[],[],zid,[]⟩,⟨.slice none 0 0, .slice none 0 0, .slice none 0 0⟩):Ah)).1.at_,[]⟩,⟨vb1,vb2,(Value.slice none 0 0)⟩):Ah))) ⟨Ext.refl _,rfl⟩
   ·refine Ax (Aa rfl fun σ w1 hC h=> ?_)
    have e1:=(Ae (h 1 (by decide))).trans o
    exact Yk.fieldAt LV e1 ⟨Ext.refl _,rfl⟩
   ·refine Ax (Aa rfl fun σ w1 hC h=> ?_)
    have db:=Ae (h 40 (by decide))
    exact Yk.cell1 D5 rfl db (Al (eb hC c) (show(refsC y)[1]? =some (y.2.tags:Value)from B6 y)) ⟨Ext.refl _,rfl⟩
   ·refine Ax (Aa rfl fun σ w1 hC h=> ?_)
    have e5:=(Ae (h 5 (by decide))).trans T5
    exact Yk.move e5 ⟨Ext.refl _,rfl⟩
   ·refine Ax (Aa rfl fun σ w1 hC h=> ?_)
    have dc:=Ae (h 41 (by decide))
    have dd:=Ae (h 42 (by decide))
    exact Yk.atRG D5 Iw (by decide) dNmd (RG.of (hmg.keep (hE.trans hC)) dc) dd (by omega) fun v h=>⟨Ext.refl _,h⟩
   ·refine Ax (Aa rfl fun σ w1 hC h=> ?_)
    have de:(fun x w' =>PR (nmdC ((y.1.tags).getD (i2) dNmd)) x w') (σ 43) w1:=h 43 (by decide)
    exact Yk.fieldPR (n:=1) FJ de fun v h=>⟨Ext.refl _,PR.pcell (by rw[DJ]at h;exact h)⟩
   ·refine Ax (Aa rfl fun σ w1 hC h=> ?_)
    have df:(PCell (St (((y.1.tags).getD (i2) dNmd).name))) (σ 44) w1:=h 44 (by decide)
    exact Yk.loadC DT rfl df ⟨Ext.refl _,rfl⟩
   ·refine Ax (Aa rfl fun σ w1 hC h=> ?_)
    have e1:=(Ae (h 1 (by decide))).trans o
    exact Yk.fieldAt LV e1 ⟨Ext.refl _,rfl⟩
   ·refine Ax (Aa rfl fun σ w1 hC h=> ?_)
    have dg:=Ae (h 46 (by decide))
    exact Yk.cell1 D5 rfl dg (Al (eb hC c) (show(refsC y)[1]? =some (y.2.tags:Value)from B6 y)) ⟨Ext.refl _,rfl⟩
   ·refine Ax (Aa rfl fun σ w1 hC h=> ?_)
    have e5:=(Ae (h 5 (by decide))).trans T5
    exact Yk.move e5 ⟨Ext.refl _,rfl⟩
   ·refine Ax (Aa rfl fun σ w1 hC h=> ?_)
    have dh:=Ae (h 47 (by decide))
    have di:=Ae (h 48 (by decide))
    exact Yk.atRG D5 Iw (by decide) dNmd (RG.of (hmg.keep (hE.trans hC)) dh) di (by omega) fun v h=>⟨Ext.refl _,h⟩
   ·refine Ax (Aa rfl fun σ w1 hC h=> ?_)
    have dj:(fun x w' =>PR (nmdC ((y.1.tags).getD (i2) dNmd)) x w') (σ 49) w1:=h 49 (by decide)
    exact Yk.fieldPR (n:=32) LT dj fun v h=>⟨Ext.refl _,by rw[Ee]at h;exact h⟩
   ·refine Ax (Aa rfl fun σ w1 hC h=> ?_)
    have dk:(fun x w' =>PR (Lib.byteCells ((y.1.tags).getD (i2) dNmd).id.1) x w') (σ 50) w1:=h 50 (by decide)
    exact Yk.loadPR dk P8 rfl (by rw[Lib.byteCells_length,((y.1.tags).getD (i2) dNmd).id.2];exact Nw) ⟨Ext.refl _,rfl⟩
   ·refine Ax (Aa rfl fun σ w1 hC h=> ?_)
    have dl:=Ae (h 45 (by decide))
    have dm:=Ae (h 51 (by decide))
    exact Yk.build2 dl dm (fun w=>GG (((y.1.tags).getD (i2) dNmd).name) (((y.1.tags).getD (i2) dNmd).id) w) ⟨Ext.refl _,rfl⟩
   ·refine Ax (Aa rfl fun σ w1 hC h=> ?_)
    have dn:=Ae (h 52 (by decide))
    exact Yk.lit1G (a:=(⟨(((y.1.tags).getD (i2) dNmd).name),((y.1.tags).getD (i2) dNmd).id⟩:AK)) (enc:=nmdC) dn (Bq _) JY fun v w2 h hx=>⟨hx,h⟩
   ·exact trivial
   ·exact trivial
   ·exact trivial
  intro a6 bn ai he hf
  obtain⟨-,k39,-,-,-,-,-,-,-,-,-,-,-,-,-,k53,-⟩:=hf
  obtain⟨r,o,t,p,q,T5,-⟩:=he.hold [(0,_),(1,_),(2,_),(3,_),(4,_),(5,_)] ⟨r,o,t,p,q,T5,trivial⟩ rfl
  clear he
  have hE:=hE.trans ai
  have c:=eb ai c
  have f:=eb ai f
  have g:=g.keep ai
  have hm2:=eb ai hm2
  have s:=s.keep ai
  have bo:a6 39=vb2:=k39
  have k53:(fun x w' =>RG 33 (nmdC) w' x ([(⟨(((y.1.tags).getD (i2) dNmd).name),((y.1.tags).getD (i2) dNmd).id⟩:AK)])) (a6 53) bn:=k53
  obtain⟨fe,bp⟩:∃v,a6 53=v:=⟨_,rfl⟩
  rw[bp]at k53
  have bq:=k53;clear k53
  clear k39
  refine oS rfl (Yk.appendRG _ _ w.heap.size _ 48 Fz wr28_ig61.choose_spec.1 wr28_ig61.choose_spec.2 Fz (y.1.tags.take i2) ([(⟨(((y.1.tags).getD (i2) dNmd).name),((y.1.tags).getD (i2) dNmd).id⟩:AK)]) (OG.of s bo) (RG.of bq bp) (fun _ _=>CL) (by simp only[List.length_take,List.length_append,List.length_cons,List.length_nil];omega) (by simp only[List.length_take,List.length_append,List.length_cons,List.length_nil];omega) hE.size fun ae dp an ac=> ?_)
  have ac:Grew bn dp vb2 ae:= .eqv bo ac
  have dq:OB ae l:=AU ac hap_vb2_n2 (bl c)
  have dr:OB ae u:=AU ac hap_vb2_n10 (bl f)
  have br:OB ae j:=AU ac hap_vb2_n23 (bl hm2)
  have ds:CD ae vb1:=HJ ac hap_vb2_vb1 g.2
  have hE:=AZ hE ac s.2 (Nat.le_refl _)
  have c:=AN c ac hap_vb2_n2
  have f:=AN f ac hap_vb2_n10
  have g:=Dr g ac hap_vb2_vb1
  have hm2:=AN hm2 ac hap_vb2_n23
  clear bq
  clear s
  refine oS rfl (Yk.fieldAt L6 p (oS rfl (Yk.storeC (i:=1) (v:=ae) (vr (PQ j 1) rfl) (vr ae rfl) hm2 (by rw[Ao];decide) IP (RG.one (RG.ofOwn an)).1 (RG.one (RG.ofOwn an)).2 fun dt bs ao ff=> ?_)))
  have hE:=Af hE ao (Nat.le_trans ak (by omega))
  have c:=kb ao c (by omega)
  have f:=kb ao f (by omega)
  have g:=OG.kept g ao hap_vb1_n23
  have an:=OG.kept an ao br
  clear hm2
  have hm2:dt.heap[j]? =some (.cells (refsC ((⟨(y.1.branches.take i1),(y.1.tags.take i2)++ [(⟨(((y.1.tags).getD (i2) dNmd).name),((y.1.tags).getD (i2) dNmd).id⟩:AK)],(((⟨[],[],[],zid,[]⟩,⟨.slice none 0 0, .slice none 0 0, .slice none 0 0⟩):Ah)).1.head,(((⟨[],[],[],zid,[]⟩,⟨.slice none 0 0, .slice none 0 0, .slice none 0 0⟩):Ah)).1.at_,[]⟩,⟨vb1,ae,(Value.slice none 0 0)⟩):Ah)).toArray 27 (0,0)):=AG bs (E3 ((⟨(y.1.branches.take i1),(y.1.tags.take i2),(((⟨[],[],[],zid,[]⟩,⟨.slice none 0 0, .slice none 0 0, .slice none 0 0⟩):Ah)).1.head,(((⟨[],[],[],zid,[]⟩,⟨.slice none 0 0, .slice none 0 0, .slice none 0 0⟩):Ah)).1.at_,[]⟩,⟨vb1,vb2,(Value.slice none 0 0)⟩):Ah) ae ((y.1.tags.take i2)++ [(⟨(((y.1.tags).getD (i2) dNmd).name),((y.1.tags).getD (i2) dNmd).id⟩:AK)]));clear bs
  have fg:=bl hm2
  refine oZ (bN (tN (c8 _ _ (wt (oM rfl (oS rfl (Yk.bin (xv:=NI i2) (yv:=NI 1) T5 rfl rfl (AA _ _ _ (by omega)) (oA rfl (A3 [(0, .agg (refsC y).toArray),(1,PQ l 0),(2,PQ u 0),(3,PQ j 0),(4,NI i1),(5,NI ((i2)+(1)))] ⟨r,o,t,p,q,rfl,trivial⟩ fun du ⟨r,o,t,p,q,T5,_⟩=>(tN (And.intro ⟨i2+1,ae,r,o,t,p,q,T5,hE,c,f,g,hm2,CR an (Fx c7),by omega,dq,dr,br,ds,trivial⟩ ?_)))))))))))
  show y.1.tags.length-(intOf (du 5)).toNat<y.1.tags.length-(intOf (c4 5)).toNat
  rw[T5,q5]
  simp only[intOf,Int.toNat_natCast];omega
 refine AP (Ar (Ar (Az (tN (c2 _ _ (sk fun fh dv=> ?_))))))
 have aj:Ext bm (World.drew bm):=(Below.refl _ _).drew
 have hE:=hE.trans aj
 have c:=eb aj c
 have f:=eb aj f
 have g:=g.keep aj
 have hm2:=eb aj hm2
 have s:=s.keep aj
 refine Fw [(0,56,PQ l 2),(1,57,St (y.1.head)),(2,58,PQ l 3),(3,59,AB y.1.at_.1),(4,60,PQ j 2),(6,61,PQ j 3)] [5,7] (fun wz=>Ext w wz∧wz.heap[l]? =some (.cells (refsC y).toArray 35 (0,0))∧wz.heap[u]? =some (.cells (refsC ((⟨[],[],[],zid,[]⟩,⟨.slice none 0 0, .slice none 0 0, .slice none 0 0⟩):Ah)).toArray 27 (0,0))∧True) (by kernel_rfl) (by kernel_rfl) (by kernel_rfl) ⟨hE,c,f,trivial⟩ ⟨fun ap ⟨hE,c,f,_⟩=>Yk.fieldAt FK o ⟨rfl,rfl⟩,fun ap ⟨hE,c,f,_⟩=>Yk.cell1 DT rfl (vr (PQ l 2) rfl) (Al c (show(refsC y)[2]? =some (St (y.1.head):Value)from Cq y)) ⟨rfl,rfl⟩,fun ap ⟨hE,c,f,_⟩=>Yk.fieldAt HM o ⟨rfl,rfl⟩,fun ap ⟨hE,c,f,_⟩=>Yk.loadPR (PR.blk c (B7 y) (Cm y) (vr (PQ l 3) rfl)) P8 rfl (At y.1.at_.2) ⟨rfl,rfl⟩,fun ap ⟨hE,c,f,_⟩=>Yk.fieldAt HY p ⟨rfl,rfl⟩,fun ap ⟨hE,c,f,_⟩=>Yk.fieldAt H0 p ⟨rfl,rfl⟩,trivial⟩ (Ch rfl (Yk.storeC (i:=2) (v:=St (y.1.head)) (vr (PQ j 2) rfl) (vr (St (y.1.head)) rfl) hm2 (by rw[Ao];decide) Ob rfl rfl fun dw bt aq fi=> ?_))
 have hE:=Af hE aq (Nat.le_trans ak (by omega))
 have c:=kb aq c (by omega)
 have f:=kb aq f (by omega)
 have g:=OG.kept g aq hap_vb1_n23
 have s:=OG.kept s aq hap_vb2_n23
 clear hm2
 have hm2:dw.heap[j]? =some (.cells (refsC ((⟨(y.1.branches.take i1),(y.1.tags.take i2),y.1.head,(((⟨[],[],[],zid,[]⟩,⟨.slice none 0 0, .slice none 0 0, .slice none 0 0⟩):Ah)).1.at_,[]⟩,⟨vb1,vb2,(Value.slice none 0 0)⟩):Ah)).toArray 27 (0,0)):=AG bt (FZ ((⟨(y.1.branches.take i1),(y.1.tags.take i2),(((⟨[],[],[],zid,[]⟩,⟨.slice none 0 0, .slice none 0 0, .slice none 0 0⟩):Ah)).1.head,(((⟨[],[],[],zid,[]⟩,⟨.slice none 0 0, .slice none 0 0, .slice none 0 0⟩):Ah)).1.at_,[]⟩,⟨vb1,vb2,(Value.slice none 0 0)⟩):Ah) y.1.head);clear bt
 have fj:=bl hm2
 refine⟨.inr ⟨hE,c,f,trivial⟩,?_⟩
 refine Ch rfl (Yk.storeMid (a:=Dq ((⟨(y.1.branches.take i1),(y.1.tags.take i2),y.1.head,(((⟨[],[],[],zid,[]⟩,⟨.slice none 0 0, .slice none 0 0, .slice none 0 0⟩):Ah)).1.at_,[]⟩,⟨vb1,vb2,(Value.slice none 0 0)⟩):Ah)) (m:=Lib.byteCells ((((⟨[],[],[],zid,[]⟩,⟨.slice none 0 0, .slice none 0 0, .slice none 0 0⟩):Ah)).1.at_).1) (z:=D0 ((⟨(y.1.branches.take i1),(y.1.tags.take i2),y.1.head,(((⟨[],[],[],zid,[]⟩,⟨.slice none 0 0, .slice none 0 0, .slice none 0 0⟩):Ah)).1.at_,[]⟩,⟨vb1,vb2,(Value.slice none 0 0)⟩):Ah)) (cells:=Lib.byteCells y.1.at_.1) (vr (PQ j 3) rfl) (vr (AB y.1.at_.1) rfl) (B7 ((⟨(y.1.branches.take i1),(y.1.tags.take i2),y.1.head,(((⟨[],[],[],zid,[]⟩,⟨.slice none 0 0, .slice none 0 0, .slice none 0 0⟩):Ah)).1.at_,[]⟩,⟨vb1,vb2,(Value.slice none 0 0)⟩):Ah)▸hm2) (Cm ((⟨(y.1.branches.take i1),(y.1.tags.take i2),y.1.head,(((⟨[],[],[],zid,[]⟩,⟨.slice none 0 0, .slice none 0 0, .slice none 0 0⟩):Ah)).1.at_,[]⟩,⟨vb1,vb2,(Value.slice none 0 0)⟩):Ah)) (by rw[Lib.byteCells_length,Lib.byteCells_length,((((⟨[],[],[],zid,[]⟩,⟨.slice none 0 0, .slice none 0 0, .slice none 0 0⟩):Ah)).1.at_).2,y.1.at_.2]) (by rw[Lib.byteCells_length,y.1.at_.2];exact Nw) (Ay _) fun ar bu au fk=> ?_)
 have hE:=Af hE au (Nat.le_trans ak (by omega))
 have c:=kb au c (by omega)
 have f:=kb au f (by omega)
 have g:=OG.kept g au hap_vb1_n23
 have s:=OG.kept s au hap_vb2_n23
 clear hm2
 have hm2:ar.heap[j]? =some (.cells (refsC ((⟨(y.1.branches.take i1),(y.1.tags.take i2),y.1.head,y.1.at_,[]⟩,⟨vb1,vb2,(Value.slice none 0 0)⟩):Ah)).toArray 27 (0,0)):=AG bu (F0 ((⟨(y.1.branches.take i1),(y.1.tags.take i2),y.1.head,(((⟨[],[],[],zid,[]⟩,⟨.slice none 0 0, .slice none 0 0, .slice none 0 0⟩):Ah)).1.at_,[]⟩,⟨vb1,vb2,(Value.slice none 0 0)⟩):Ah) y.1.at_);clear bu
 have fl:=bl hm2
 refine⟨.inl rfl,?_⟩
 refine Hr (tN (dv _ _ (sk fun fm dx=>(wt (oS rfl (Yk.fieldAt Eo p (oS rfl (Yk.cell1 EA rfl (vr (PQ j 35) rfl) (Al hm2 (show(refsC ((⟨(y.1.branches.take i1),(y.1.tags.take i2),y.1.head,y.1.at_,[]⟩,⟨vb1,vb2,(Value.slice none 0 0)⟩):Ah))[35]? =some ((Value.slice none 0 0):Value)from Bn ((⟨(y.1.branches.take i1),(y.1.tags.take i2),y.1.head,y.1.at_,[]⟩,⟨vb1,vb2,(Value.slice none 0 0)⟩):Ah))) (oS rfl (Yk.fieldAt HK o (oS rfl (Yk.cell1 EA rfl (vr (PQ l 35) rfl) (Al c (show(refsC y)[35]? =some (y.2.log:Value)from Bn y)) ?_))))))))))))
 have bv:=Ext.refl ar
 have fo:=hE.size
 refine oS rfl (Yk.appendRG _ _ ar.heap.size _ 104 EA wr30_ig50.choose_spec.1 wr30_ig50.choose_spec.2 EA ([]) (y.1.log) (OG.of (OG.nil _ _ _ _ _) (vr (Value.slice none 0 0) rfl)) (RG.of (hml.keep hE) (vr y.2.log rfl)) (fun _ _=>C7) (by simp only[List.length_nil];omega) (by simp only[List.length_nil];omega) bv.size fun aa bw af a7=> ?_)
 have a7:Grew ar bw (.slice none 0 0) aa:=a7
 have fp:=(bl c)
 have dy:=(bl f)
 have dz:=(bl hm2)
 have hx_:Ext ar bw:=Ext.of (by have:=a7.by_;exact this)
 have hE:=hE.trans hx_
 have f:=eb hx_ f
 have g:=g.keep hx_
 have s:=s.keep hx_
 have hm2:=eb hx_ hm2
 have d0:OB aa u:=Be af.2 dy
 have d1:OB aa j:=Be af.2 dz
 refine oS rfl (Yk.fieldAt Eo p (oS rfl (Yk.storeC (i:=35) (v:=aa) (vr (PQ j 35) rfl) (vr aa rfl) hm2 (by rw[Ao];decide) Gp (RG.one (RG.ofOwn af)).1 (RG.one (RG.ofOwn af)).2 fun d2 bx av fq=> ?_)))
 have hE:=Af hE av (Nat.le_trans ak (by omega))
 have f:=kb av f (by omega)
 have g:=OG.kept g av hap_vb1_n23
 have s:=OG.kept s av hap_vb2_n23
 clear bv
 have af:=OG.kept af av d1
 clear hm2
 have hm2:d2.heap[j]? =some (.cells (refsC ((⟨(y.1.branches.take i1),(y.1.tags.take i2),y.1.head,y.1.at_,([])++y.1.log⟩,⟨vb1,vb2,aa⟩):Ah)).toArray 27 (0,0)):=AG bx (D1 ((⟨(y.1.branches.take i1),(y.1.tags.take i2),y.1.head,y.1.at_,[]⟩,⟨vb1,vb2,(Value.slice none 0 0)⟩):Ah) aa (([])++y.1.log));clear bx
 have fr:=bl hm2
 refine oZ (tN (dx _ _ (sk fun fs d3=>(wt (oS rfl (Yk.loadAll p hm2 (JZ).choose_spec rfl (AC (Ao ((⟨(y.1.branches.take i1),(y.1.tags.take i2),y.1.head,y.1.at_,([])++y.1.log⟩,⟨vb1,vb2,aa⟩):Ah)) Gq) (oS rfl (Yk.storeAll t (vr (.agg (refsC ((⟨(y.1.branches.take i1),(y.1.tags.take i2),y.1.head,y.1.at_,([])++y.1.log⟩,⟨vb1,vb2,aa⟩):Ah)).toArray) rfl) f (by simp only[List.size_toArray,Ao]) (AC (Ao _) Gq) (Br (x:=((⟨(y.1.branches.take i1),(y.1.tags.take i2),y.1.head,y.1.at_,([])++y.1.log⟩,⟨vb1,vb2,aa⟩):Ah)) (RG.one (RG.ofOwn g)).2 (RG.one (RG.ofOwn s)).2 (RG.one (RG.ofOwn af)).2) fun d4 bz aw ft=> ?_))))))))
 have hE:=Af hE aw (Nat.le_trans b6 (by omega))
 have g:=OG.kept g aw hap_vb1_n10
 have s:=OG.kept s aw hap_vb2_n10
 have af:=OG.kept af aw d0
 have hm2:=kb aw hm2 (by omega)
 clear f
 have f:d4.heap[u]? =some (.cells (refsC ((⟨(y.1.branches.take i1),(y.1.tags.take i2),y.1.head,y.1.at_,([])++y.1.log⟩,⟨vb1,vb2,aa⟩):Ah)).toArray 27 (0,0)):=bz;clear bz
 have fu:=bl f
 refine oZ (tN (d3 _ _ (Am (Aj (fn:=Tryz.f11) _ rfl [.agg (refsC ((⟨(y.1.branches.take i1),(y.1.tags.take i2),y.1.head,y.1.at_,([])++y.1.log⟩,⟨vb1,vb2,aa⟩):Ah)).toArray] (.agg (refsC ((⟨(y.1.branches.take i1),(y.1.tags.take i2),y.1.head,y.1.at_,([])++y.1.log⟩,⟨vb1,vb2,aa⟩):Ah)).toArray) rfl ⟨ResF.row t f (JZ).choose_spec rfl (AC (Ao _) Gq),trivial⟩ ?_))))
 have e1:y.1.branches.take i1=y.1.branches:=List.take_of_length_le (by omega)
 have e2:y.1.tags.take i2=y.1.tags:=List.take_of_length_le (by omega)
 refine⟨⟨_,_,_⟩,?_,⟨RG.ofOwn (CR g e1),RG.ofOwn (CR s e2),RG.ofOwn (CR af (by simp))⟩,hE⟩
 rw[e1,e2];rfl
open Go.RowKit
set_option maxRecDepth 100000
theorem M6{r:A0}(h:Cp r=true):r.branches.length≤80∧r.tags.length≤80∧r.log.length≤80:=by
 unfold Cp at h
 simp only[Bool.and_eq_true]at h
 have h1:=h.1
 exact NM (by simpa using h1)

set_option maxHeartbeats 1600000
open Go.RowKit
def Rb(f:Field)(x:Nat × Nat):Bool:=f.name != "_" && (f.type==x.1&&f.offset==x.2)
def IQ:List Field→List (Nat × Nat)→Bool
  | [],[]=>true
  | f :: fs,x :: r=>Rb f x&&IQ fs r
  | _,_=>false
section
variable {P : Program} {w : World} {d : Nat} {xs ys : Array Value}
theorem Jk{fs:List Field}(h:IQ fs []=true):(Op.eqFields d xs ys fs).run P w = .ok true w:=by
  cases fs with
  | nil=>simp[Op.eqFields,Sem.run_pure]
  | cons f fs=>cases h
theorem Dy{fs:List Field}{t o:Nat}{r:List (Nat × Nat)}{a b:Value}{q q2:Bool}(h:IQ fs ((t,o) :: r)=true)(ha:(part t xs o).run P w = .ok a w)(hb:(part t ys o).run P w = .ok b w)(he:(Op.equalIn d t a b).run P w = .ok q w) 
    (hr:∀fs',IQ fs' r=true→(Op.eqFields d xs ys fs').run P w = .ok q2 w):(Op.eqFields d xs ys fs).run P w = .ok (q&&q2) w:=by
  cases fs with
  | nil=>cases h
  | cons f fs=>
    simp only[IQ,Rb,Bool.and_eq_true,bne_iff_ne,beq_iff_eq]at h
    obtain⟨⟨hn,ht,ho⟩,h2⟩:=h
    have hr:=hr fs h2
    simp only[Op.eqFields,if_pos hn,Sem.run_bind,ht,ho,ha,hb,he,Result.andThen_ok]
    cases q
    · simp[Sem.run_pure]
    · simpa using hr
theorem Dz{t o:Nat}{cs:List Value}{v:Value}(h:(isAgg t).run P w = .ok false w)(hv:cs[o]? =some v):(part t cs.toArray o).run P w = .ok v w:=by
  unfold part
  rw[Sem.run_bind,h]
  simp[hv,Sem.run_pure]
theorem E4{t o:Nat}{cs a z:List Value}{l:List UInt8}(h:(isAgg t).run P w = .ok true w)(hs:(sizeOf t).run P w = .ok 32 w)(hc:cs=a++Lib.byteCells l++z)(ha:a.length=o)(hl:l.length=32):(part t cs.toArray o).run P w = .ok (.agg (Lib.byteCells l).toArray) w:=by
  unfold part
  have e:(cs.drop o).take 32=Lib.byteCells l:=by
    rw[hc,List.append_assoc,←ha,List.drop_left,List.take_left' (by rw[Lib.byteCells_length,hl])]
  rw[Sem.run_bind,h]
  simp[hs,e]
theorem Rc{t:Nat}{a b:UInt8}(h:P.underlying t=some (.int .u8)):(Op.equalIn (d+1) t (B8 a) (B8 b)).run P w = .ok (decide (a=b)) w:=by
  rw[run_equalIn_int w d t .u8 .u8 _ _ h,byte_eq]
theorem Jl{t:Nat}{a b:Bs}(h:P.underlying t=some .string):(Op.equalIn (d+1) t (St a) (St b)).run P w = .ok (decide (a=b)) w:=by
  have e:=run_equalIn_string (P:=P) w d t ⟨a.toArray⟩ ⟨b.toArray⟩ h
  rw[El,El]at e
  refine e.trans ?_
  congr 1
  rw[Bool.eq_iff_iff]
  simp
theorem Lv{t e:Nat}{a b:BS}(ht:P.underlying t=some (.array 32 e))(he:P.underlying e=some (.int .u8))(hs:(sizeOf e).run P w = .ok 1 w):(Op.equalIn (d+1+1) t (.agg (Lib.byteCells a.1).toArray) (.agg (Lib.byteCells b.1).toArray)).run P w = .ok (decide (a=b)) w:=by
  rw[run_eqArray w ht he hs a.1 b.1 a.2 b.2]
  congr 1
  exact decide_eq_decide.2 ⟨fun h=>Subtype.ext h,fun h=>by rw[h]⟩
end
section
variable {P : Program} {K : Value → World → Prop} {ρ : Au} {w : World} {d : Option Tmp} {ty : TypeId} {pos : String} {af : Array Edge} {gd : Option (Nat × Bool)}
theorem Yk.neStr{t ty2:TypeId}{x y:Operand}{cx cy:Array Value}{b:Bool}(hg:P.eqGuardType P.depth t=false)(hx:Ag ρ x = .agg cx)(hy:Ag ρ y = .agg cy)(h:(Op.equalIn 10000 t (.agg cx) (.agg cy)).run P w = .ok b w)(hk:K (.bool (!b)) w):Yk P K ((execOp (Ag ρ) ⟨d, .binOp .neq t x y ty2,ty,pos,af,gd⟩).run P w):=by
  refine Yk.value (v:= .bool (!b)) (w' :=w) ?_ hk
  unfold execOp
  simp only[hx,hy,Sem.run_bind,run_eqGuard_agg w .neq t x y cx cy hg,Result.andThen_ok,run_neq_struct,h]
  rfl
end
open Go.RowKit
theorem Lw{P:Program}{w:World}{t o n:Nat}{cs a m z:List Value}(h:(isAgg t).run P w = .ok true w)(hs:(sizeOf t).run P w = .ok n w)(hc:cs=a++m++z)(ha:a.length=o)(hl:m.length=n):(part t cs.toArray o).run P w = .ok (.agg m.toArray) w:=by
  unfold part
  have e:(cs.drop o).take n=m:=by rw[hc,List.append_assoc,←ha,List.drop_left,List.take_left' hl]
  rw[Sem.run_bind,h]
  simp[hs,e]
theorem Re(w:World)(d:Nat)(x:Ba):(Op.equalIn (d+3) 48 (.agg (updC x).toArray) (.agg (updC x).toArray)).run Tryz.prog w = .ok true w:=by
  refine(run_equalIn_struct w (d+2) _ _ _ (by kernel_rfl) (by kernel_rfl)).trans ?_
  rw[show true=(decide (x.kind=x.kind)&&(decide (x.name=x.name)&&(decide (x.old=x.old)&&(decide (x.new=x.new)&&true)))) by simp]
  exact Dy (t:=5) (o:=0) (r:= [(9,1),(24,2),(24,34)]) (by kernel_rfl) (Dz (by kernel_rfl) (Fd x)) (Dz (by kernel_rfl) (Fd x)) (Rc (d:=d+1) (by kernel_rfl)) fun _ h=>
    Dy h (Dz (by kernel_rfl) (DI x)) (Dz (by kernel_rfl) (DI x)) (Jl (d:=d+1) (by kernel_rfl)) fun _ h=>
    Dy h (E4 (by kernel_rfl) (by kernel_rfl) (Fe x) (Ff x) x.old.2) (E4 (by kernel_rfl) (by kernel_rfl) (Fe x) (Ff x) x.old.2) (Lv (d:=d) (e:=5) (by kernel_rfl) (by kernel_rfl) (by kernel_rfl)) fun _ h=>
    Dy h (E4 (by kernel_rfl) (by kernel_rfl) (Dk x) (Dl x) x.new.2) (E4 (by kernel_rfl) (by kernel_rfl) (Dk x) (Dl x) x.new.2) (Lv (d:=d) (e:=5) (by kernel_rfl) (by kernel_rfl) (by kernel_rfl)) fun _ h=>Jk h
theorem Rf(w:World)(x:AK):(Op.equalIn 10000 61 (.agg (nmdC x).toArray) (.agg (nmdC x).toArray)).run Tryz.prog w = .ok true w:=by
  refine(run_equalIn_struct w 9999 _ _ _ (by kernel_rfl) (by kernel_rfl)).trans ?_
  rw[show true=(decide (x.name=x.name)&&(decide (x.id=x.id)&&true)) by simp]
  exact Dy (t:=9) (o:=0) (r:= [(24,1)]) (by kernel_rfl) (Dz (by kernel_rfl) (Ed x)) (Dz (by kernel_rfl) (Ed x)) (Jl (d:=9998) (by kernel_rfl)) fun _ h=>
    Dy h (E4 (by kernel_rfl) (by kernel_rfl) (FX x) (FY x) x.id.2) (E4 (by kernel_rfl) (by kernel_rfl) (FX x) (FY x) x.id.2) (Lv (d:=9997) (e:=5) (by kernel_rfl) (by kernel_rfl) (by kernel_rfl)) fun _ h=>Jk h
theorem J0(x:AM):entC x= []++updC ⟨x.kind,x.name,x.old,x.new⟩++ [St x.note]:=by simp[entC,updC]
theorem Rz(w:World)(x:AM):(Op.equalIn 10000 50 (.agg (entC x).toArray) (.agg (entC x).toArray)).run Tryz.prog w = .ok true w:=by
  refine(run_equalIn_struct w 9999 _ _ _ (by kernel_rfl) (by kernel_rfl)).trans ?_
  rw[show true=(true&&(decide (x.note=x.note)&&true)) by simp]
  exact Dy (t:=48) (o:=0) (r:= [(9,66)]) (by kernel_rfl) (Lw (by kernel_rfl) (by kernel_rfl) (J0 x) rfl (BT _)) (Lw (by kernel_rfl) (by kernel_rfl) (J0 x) rfl (BT _)) (Re w 9996 _) fun _ h=>
    Dy h (Dz (by kernel_rfl) (Fg x)) (Dz (by kernel_rfl) (Fg x)) (Jl (d:=9998) (by kernel_rfl)) fun _ h=>Jk h
open Go.RowKit
set_option maxRecDepth 100000
theorem J1:∃fs,Tryz.prog.underlying 61=some (.struct fs):=Dw (by kernel_rfl)
theorem IR:(Tryz.prog.info? 61).map (·.size)=some 33:=by kernel_rfl
theorem OC:Tryz.prog.eqGuardType Tryz.prog.depth 61=false:=by kernel_rfl
theorem J2:AI Tryz.prog 28:=fun _ _=>by kernel_rfl
theorem OD:Tryz.prog.eqGuardType Tryz.prog.depth 50=false:=by kernel_rfl
set_option maxHeartbeats 1600000
theorem IS(w:World)(v j:Value)(l:List AK)(hr:RG 33 nmdC w v l)(m:RG 33 nmdC w j l)(hl:l.length<9223372036854775807):
  Calls Tryz.prog 28 #[v,j] w fun e w' =>e = .returned (.bool true)∧Ext w w' :=by
 refine As (args:= [v,j]) Tryz.func28 rfl 26 rfl (Nat.le_of_ble_eq_true rfl) ?_
 intro r hb
 have c:r 0=(v:Value):=hb.get 0
 have g:r 1=(j:Value):=hb.get 1
 clear hb
 have hE:=Ext.refl w
 refine sk fun K1 t=>(wt (oA rfl (oZ (tN (t _ _ (sk fun K2 u=>(sk fun K3 y=>(wt (oM rfl (oS rfl (Yk.lenRG Fz (RG.of hr c) (oM rfl (oS rfl (Yk.lenRG Fz (RG.of m g) (oS rfl (Yk.eqI (a:=(l.length:Nat)) (b:=(l.length:Nat)) rfl rfl (BO _ _ _ _) (oZ (tN (y _ _ (AH (vr (.bool (false)) (congrArg Value.bool (decide_eq_false (fun h=>h rfl)))) ?_))))))))))))))))))))
 refine Aq (tN (u _ _ (sk fun K4 z=>(sk fun K5 aa=>(wt (oA rfl (A3 [(0,v),(1,j),(4, .bool (false)),(5,NI 0),(10, .bool (false))] ⟨c,g,rfl,rfl,(congrArg Value.bool (decide_eq_false (fun h=>h rfl))),trivial⟩ fun a1 ⟨c,g,T4,f,n,_⟩=>(tN (aa _ _ (Av (A4 (fun(ρ:Au) (wz:World)=>∃i:Nat,ρ 0=(v:Value)∧ρ 1=(j:Value)∧ρ 10=(.bool (false):Value)∧ρ 5=(NI i:Value)∧RG 33 nmdC wz v l∧RG 33 nmdC wz j l∧Ext w wz∧(i≤l.length)∧True) (fun ρ _=>l.length-(intOf (ρ 5)).toNat) ⟨0,c,g,n,f,hr,m,hE,Nat.zero_le _,trivial⟩ ?_)))))))))))
 clear hr m hE
 rintro ab w8 ⟨i,c,g,n,f,hr,m,hE,hi,-⟩
 have q5:=f
 refine sk fun K9 ac=>(sk fun a5 ad=>(wt (oM rfl (oM rfl (oS rfl (Yk.lenRG Fz (RG.of hr c) (oS rfl (Yk.eqI (a:=(i:Nat)) (b:=(l.length:Nat)) f rfl (AX _ _ _ _) (oZ (tN (ad _ _ ?_)))))))))))
 refine AL ((i)<(l.length)) (vr (.bool (decide ((i)<(l.length)))) rfl) (fun s=> ?_) (fun s=> ?_)
 ·have hlt:i<l.length:=s
  refine Aq (tN (ac _ _ (sk fun a6 ae=>(Av (sk fun a7 af=> ?_)))))
  refine Bw [Is (v),Is (NI i),fun x w' =>PR (nmdC (l.getD (i) dNmd)) x w',Is (.agg (nmdC (l.getD (i) dNmd)).toArray),Is (j),Is (NI i),fun x w' =>PR (nmdC (l.getD (i) dNmd)) x w',Is (.agg (nmdC (l.getD (i) dNmd)).toArray),Is (.bool (false))] (by kernel_rfl) [17,18,19,20,21,22,23,24,25] (by kernel_rfl) (by kernel_rfl) (DG ⟨(fun _ _ _ h k=>PR.keep h k),(QV ⟨(fun _ _ _ h k=>PR.keep h k),(DG trivial)⟩)⟩) ?ag ?hQ1006
  case ag=>
   refine⟨?_,?_,?_,?_,?_,?_,?_,?_,?_,trivial⟩
   ·refine Aa rfl fun σ w1 hC h=> ?_
    have e0:=(Ae (h 0 (by decide))).trans c
    exact Yk.move e0 ⟨Ext.refl _,rfl⟩
   ·refine Aa rfl fun σ w1 hC h=> ?_
    have o:=(Ae (h 5 (by decide))).trans f
    exact Yk.move o ⟨Ext.refl _,rfl⟩
   ·refine Aa rfl fun σ w1 hC h=> ?_
    have ai:=Ae (h 17 (by decide))
    have aj:=Ae (h 18 (by decide))
    exact Yk.atRG Fz EX (by decide) dNmd (RG.of (hr.keep hC) ai) aj (by omega) fun v h=>⟨Ext.refl _,h⟩
   ·refine Aa rfl fun σ w1 hC h=> ?_
    have ak:(fun x w' =>PR (nmdC (l.getD (i) dNmd)) x w') (σ 19) w1:=h 19 (by decide)
    exact Yk.loadPR ak (J1).choose_spec rfl (by rw[Bq];exact IR) ⟨Ext.refl _,rfl⟩
   ·refine Aa rfl fun σ w1 hC h=> ?_
    have e1:=(Ae (h 1 (by decide))).trans g
    exact Yk.move e1 ⟨Ext.refl _,rfl⟩
   ·refine Aa rfl fun σ w1 hC h=> ?_
    have o:=(Ae (h 5 (by decide))).trans f
    exact Yk.move o ⟨Ext.refl _,rfl⟩
   ·refine Aa rfl fun σ w1 hC h=> ?_
    have am:=Ae (h 21 (by decide))
    have an:=Ae (h 22 (by decide))
    exact Yk.atRG Fz EX (by decide) dNmd (RG.of (m.keep hC) am) an (by omega) fun v h=>⟨Ext.refl _,h⟩
   ·refine Aa rfl fun σ w1 hC h=> ?_
    have ao:(fun x w' =>PR (nmdC (l.getD (i) dNmd)) x w') (σ 23) w1:=h 23 (by decide)
    exact Yk.loadPR ao (J1).choose_spec rfl (by rw[Bq];exact IR) ⟨Ext.refl _,rfl⟩
   ·refine Aa rfl fun σ w1 hC h=> ?_
    have ap:=Ae (h 20 (by decide))
    have aq:=Ae (h 24 (by decide))
    exact Yk.neStr OC ap aq (Rf _ (l.getD i dNmd)) ⟨Ext.refl _,rfl⟩
  intro ar a8 p he hf
  obtain⟨-,-,-,-,-,-,-,-,k25,-⟩:=hf
  obtain⟨c,g,f,n,-⟩:=he.hold [(0,_),(1,_),(5,_),(10,_)] ⟨c,g,f,n,trivial⟩ rfl
  clear he
  have hr:=hr.keep p
  have m:=m.keep p
  have hE:=hE.trans p
  have q:ar 25 = .bool (false):=k25
  clear k25
  refine tN (af _ _ (AH q (Aq (bN (tN (ae _ _ (wt (oM rfl (oS rfl (Yk.bin (xv:=NI i) (yv:=NI 1) f rfl rfl (AA _ _ _ (by omega)) (oA rfl (A3 [(0,v),(1,j),(5,NI ((i)+(1))),(10, .bool (false)),(25, .bool (false))] ⟨c,g,rfl,n,q,trivial⟩ fun au ⟨c,g,f,n,q,_⟩=>(tN (And.intro ⟨i+1,c,g,n,f,hr,m,hE,by omega,trivial⟩ ?_))))))))))))))
  show l.length-(intOf (au 5)).toNat<l.length-(intOf (ab 5)).toNat
  rw[f,q5]
  simp only[intOf,Int.toNat_natCast];omega
 refine AP (Ar (Ar (Az (tN (z _ _ (sk fun a9 av=>(wt (oA rfl (oZ (tN (av _ _ (Am (Aj (fn:=Tryz.f28) _ rfl [.bool (true)] (.bool (true)) rfl ⟨rfl,trivial⟩ ?_)))))))))))))
 exact⟨rfl,hE⟩

theorem Ep(w:World)(y z:Ah)(hm:RefsAt w y)(hn:RefsAt w z)(he:z.1=y.1)(hL:By y.1):
  Calls Tryz.prog 10 #[.agg (refsC y).toArray, .agg (refsC z).toArray] w fun e w' =>e = .returned (.bool true)∧Ext w w' :=by
 have hmt:=hm.branches
 have hmg:=hm.tags
 have hml:=hm.log
 have hnt:=he▸hn.branches
 have hng:=he▸hn.tags
 have hnl:=he▸hn.log
 refine As (args:= [.agg (refsC y).toArray, .agg (refsC z).toArray]) Tryz.func10 rfl 61 rfl (Nat.le_of_ble_eq_true rfl) ?_
 intro ag hb
 have n:ag 0=(.agg (refsC y).toArray:Value):=hb.get 0
 have o:ag 1=(.agg (refsC z).toArray:Value):=hb.get 1
 clear hb
 have hE:=Ext.refl w
 refine sk fun K1 al=>(wt (oS rfl (Yk.box (cs:=(refsC y:List Value).toArray) n fun f w3 bh ah am bi=> ?_)))
 have hE:=hE.trans am
 have c:=ah;clear ah
 have bj:f<w3.heap.size:=by omega
 refine oS rfl (Yk.box (cs:=(refsC z:List Value).toArray) o fun g an ao ai ad bk=> ?_)
 have p:=Ext.refl w3
 have bm:=hE.size
 have bn:=Bc (bl c) ao
 have hE:=hE.trans ad
 have c:=eb ad c
 have p:=p.trans ad
 have j:=ai;clear ai
 have bo:g<an.heap.size:=by omega
 refine oA rfl (oZ (tN (al _ _ (sk fun bp ap=>(sk fun bq aq=>(wt (oS rfl (Yk.fieldAt L5 (vr (PQ f 0) rfl) (oS rfl (Yk.cell1 Fz rfl (vr (PQ f 0) rfl) (Al c (show(refsC y)[0]? =some (y.2.branches:Value)from BN y)) (oS rfl (Yk.fieldAt L5 (vr (PQ g 0) rfl) (oS rfl (Yk.cell1 Fz rfl (vr (PQ g 0) rfl) (Al j (show(refsC z)[0]? =some (z.2.branches:Value)from BN z)) (oS rfl (Yk.callA2 J2 (vr y.2.branches rfl) (vr z.2.branches rfl) ((IS _ y.2.branches z.2.branches y.1.branches (hmt.keep hE) (hnt.keep hE) hL.branches).mono ?_)))))))))))))))))
 rintro e br ⟨rfl,u⟩
 refine⟨_,rfl,?_⟩
 have hE:=hE.trans u
 have c:=eb u c
 have p:=p.trans u
 have j:=eb u j
 refine oS rfl (Yk.notB (vr (.bool (true)) rfl) (oM rfl (oY (d:=12) rfl rfl (vr (.bool (false)) rfl) (Yk.fieldAt L6 (vr (PQ f 0) rfl) (oY (d:=12) rfl rfl (vr (.bool (false)) rfl) (Yk.cell1 Fz rfl (vr (PQ f 1) rfl) (Al c (show(refsC y)[1]? =some (y.2.tags:Value)from B6 y)) (oY (d:=12) rfl rfl (vr (.bool (false)) rfl) (Yk.fieldAt L6 (vr (PQ g 0) rfl) (oY (d:=12) rfl rfl (vr (.bool (false)) rfl) (Yk.cell1 Fz rfl (vr (PQ g 1) rfl) (Al j (show(refsC z)[1]? =some (z.2.tags:Value)from B6 z)) (oY (d:=12) rfl rfl (vr (.bool (false)) rfl) (Yk.callA2 J2 (vr y.2.tags rfl) (vr z.2.tags rfl) ((IS _ y.2.tags z.2.tags y.1.tags (hmg.keep hE) (hng.keep hE) hL.tags).mono ?_)))))))))))))
 rintro e bs ⟨rfl,aa⟩
 refine⟨_,rfl,?_⟩
 have hE:=hE.trans aa
 have c:=eb aa c
 have p:=p.trans aa
 have j:=eb aa j
 refine oY (d:=12) rfl rfl (vr (.bool (false)) rfl) (Yk.notB (vr (.bool (true)) rfl) (oS rfl (Yk.pickF (vr (.bool (false)) rfl) (vr (.bool (false)) rfl) (oM rfl (oY (d:=20) rfl rfl (vr (.bool (false)) rfl) (Yk.fieldAt HY (vr (PQ f 0) rfl) (oY (d:=20) rfl rfl (vr (.bool (false)) rfl) (Yk.cell1 DT rfl (vr (PQ f 2) rfl) (Al c (show(refsC y)[2]? =some (St (y.1.head):Value)from Cq y)) (oY (d:=20) rfl rfl (vr (.bool (false)) rfl) (Yk.fieldAt HY (vr (PQ g 0) rfl) (oY (d:=20) rfl rfl (vr (.bool (false)) rfl) (Yk.cell1 DT rfl (vr (PQ g 2) rfl) (Al j (show(refsC z)[2]? =some (St (z.1.head):Value)from Cq z)) (oY (d:=20) rfl rfl (vr (.bool (false)) rfl) (Yk.eqSt (l:=y.1.head) (m:=z.1.head) (.inr rfl) (vr (St (y.1.head)) rfl) (vr (St (z.1.head)) rfl) (decide ((y.1.head:List UInt8)≠(z.1.head:List UInt8))) rfl (oS rfl (Yk.pickF (vr (.bool (false)) rfl) (vr (.bool (false)) (congrArg Value.bool (decide_eq_false (fun h=>h (by rw[he]))))) (oM rfl (oY (d:=27) rfl rfl (vr (.bool (false)) rfl) (Yk.fieldAt H0 (vr (PQ f 0) rfl) (oY (d:=27) rfl rfl (vr (.bool (false)) rfl) (Yk.loadPR (PR.blk c (B7 y) (Cm y) (vr (PQ f 3) rfl)) P8 rfl (At y.1.at_.2) (oY (d:=27) rfl rfl (vr (.bool (false)) rfl) (Yk.fieldAt H0 (vr (PQ g 0) rfl) (oY (d:=27) rfl rfl (vr (.bool (false)) rfl) (Yk.loadPR (PR.blk j (B7 z) (Cm z) (vr (PQ g 3) rfl)) P8 rfl (At z.1.at_.2) (oY (d:=27) rfl rfl (vr (.bool (false)) rfl) (Yk.neArr (l1:=y.1.at_.1) (l2:=z.1.at_.1) P8 u5 MH NE (vr (AB y.1.at_.1) rfl) (vr (AB z.1.at_.1) rfl) (y.1.at_.2) (z.1.at_.2) (oS rfl (Yk.pickF (vr (.bool (false)) rfl) (vr (.bool (false)) (congrArg Value.bool (decide_eq_false (fun h=>h (by rw[he]))))) ?_)))))))))))))))))))))))))))))
 refine oM rfl (oY (d:=34) rfl rfl (vr (.bool (false)) rfl) (Yk.fieldAt Eo (vr (PQ f 0) rfl) (oY (d:=34) rfl rfl (vr (.bool (false)) rfl) (Yk.cell1 EA rfl (vr (PQ f 35) rfl) (Al c (show(refsC y)[35]? =some (y.2.log:Value)from Bn y)) (oY (d:=34) rfl rfl (vr (.bool (false)) rfl) (Yk.lenRG EA (RG.of (hml.keep hE) (vr y.2.log rfl)) (oY (d:=34) rfl rfl (vr (.bool (false)) rfl) (Yk.fieldAt Eo (vr (PQ g 0) rfl) (oY (d:=34) rfl rfl (vr (.bool (false)) rfl) (Yk.cell1 EA rfl (vr (PQ g 35) rfl) (Al j (show(refsC z)[35]? =some (z.2.log:Value)from Bn z)) (oY (d:=34) rfl rfl (vr (.bool (false)) rfl) (Yk.lenRG EA (RG.of (hnl.keep hE) (vr z.2.log rfl)) (oY (d:=34) rfl rfl (vr (.bool (false)) rfl) (Yk.eqI (a:=((y.1.log).length:Nat)) (b:=((y.1.log).length:Nat)) rfl rfl (BO _ _ _ _) (oS rfl (Yk.pickF (vr (.bool (false)) rfl) (vr (.bool (false)) (congrArg Value.bool (decide_eq_false (fun h=>h rfl)))) (A3 [(0, .agg (refsC y).toArray),(1, .agg (refsC z).toArray),(2,PQ f 0),(3,PQ g 0),(4, .bool (false)),(42, .bool (false))] ⟨n,o,rfl,rfl,rfl,rfl,trivial⟩ fun bt ⟨n,o,r,s,T4,t,_⟩=>(tN (aq _ _ (AH t (Aq (tN (ap _ _ (sk fun bu ar=>(sk fun bv au=> ?_)))))))))))))))))))))))))
 refine wt (oA rfl (A3 [(0, .agg (refsC y).toArray),(1, .agg (refsC z).toArray),(2,PQ f 0),(3,PQ g 0),(4, .bool (false)),(5,NI 0),(42, .bool (false))] ⟨n,o,r,s,T4,rfl,t,trivial⟩ fun bw ⟨n,o,r,s,T4,q,t,_⟩=>(tN (au _ _ (Av (A4 (fun(ρ:Au) (wz:World)=>∃i:Nat,ρ 0=(.agg (refsC y).toArray:Value)∧ρ 1=(.agg (refsC z).toArray:Value)∧ρ 2=(PQ f 0:Value)∧ρ 3=(PQ g 0:Value)∧ρ 42=(.bool (false):Value)∧ρ 5=(NI i:Value)∧Ext w wz∧wz.heap[f]? =some (.cells (refsC y).toArray 27 (0,0))∧Ext w3 wz∧wz.heap[g]? =some (.cells (refsC z).toArray 27 (0,0))∧(i≤y.1.log.length)∧True) (fun ρ _=>y.1.log.length-(intOf (ρ 5)).toNat) ⟨0,n,o,r,s,t,q,hE,c,p,j,Nat.zero_le _,trivial⟩ ?_))))))
 clear hE c p j
 rintro av bx ⟨i,n,o,r,s,t,q,hE,c,p,j,hi,-⟩
 have q5:=q
 refine sk fun bz aw=>(sk fun b0 ax=>(wt (oM rfl (oS rfl (Yk.fieldAt Eo r (oS rfl (Yk.cell1 EA rfl (vr (PQ f 35) rfl) (Al c (show(refsC y)[35]? =some (y.2.log:Value)from Bn y)) (oS rfl (Yk.lenRG EA (RG.of (hml.keep hE) (vr y.2.log rfl)) (oS rfl (Yk.eqI (a:=(i:Nat)) (b:=((y.1.log).length:Nat)) q rfl (AX _ _ _ _) (oZ (tN (ax _ _ ?_))))))))))))))
 refine AL ((i)<((y.1.log).length)) (vr (.bool (decide ((i)<((y.1.log).length)))) rfl) (fun ak=> ?_) (fun ak=> ?_)
 ·have hlt:i<y.1.log.length:=ak
  have hll:=hL.log
  refine Aq (tN (aw _ _ (sk fun b1 ay=>(Av (sk fun b2 az=> ?_)))))
  refine Bw [Is (PQ f 35),Is (y.2.log),Is (NI i),fun x w' =>PR (entC ((y.1.log).getD (i) Ad)) x w',Is (.agg (entC ((y.1.log).getD (i) Ad)).toArray),Is (PQ g 35),Is (z.2.log),Is (NI i),fun x w' =>PR (entC ((y.1.log).getD (i) Ad)) x w',Is (.agg (entC ((y.1.log).getD (i) Ad)).toArray),Is (.bool (false))] (by kernel_rfl) [50,51,52,53,54,55,56,57,58,59,60] (by kernel_rfl) (by kernel_rfl) (QV ⟨(fun _ _ _ h k=>PR.keep h k),(EJ ⟨(fun _ _ _ h k=>PR.keep h k),(DG trivial)⟩)⟩) ?a0 ?hQ1006
  case a0=>
   refine⟨?_,?_,?_,?_,?_,?_,?_,?_,?_,?_,?_,trivial⟩
   ·refine Aa rfl fun σ w1 hC h=> ?_
    have e2:=(Ae (h 2 (by decide))).trans r
    exact Yk.fieldAt Eo e2 ⟨Ext.refl _,rfl⟩
   ·refine Aa rfl fun σ w1 hC h=> ?_
    have a2:=Ae (h 50 (by decide))
    exact Yk.cell1 EA rfl a2 (Al (eb hC c) (show(refsC y)[35]? =some (y.2.log:Value)from Bn y)) ⟨Ext.refl _,rfl⟩
   ·refine Aa rfl fun σ w1 hC h=> ?_
    have e5:=(Ae (h 5 (by decide))).trans q
    exact Yk.move e5 ⟨Ext.refl _,rfl⟩
   ·refine Aa rfl fun σ w1 hC h=> ?_
    have a3:=Ae (h 51 (by decide))
    have a4:=Ae (h 52 (by decide))
    exact Yk.atRG EA MM (by decide) Ad (RG.of (hml.keep (hE.trans hC)) a3) a4 (by omega) fun v h=>⟨Ext.refl _,h⟩
   ·refine Aa rfl fun σ w1 hC h=> ?_
    have a5:(fun x w' =>PR (entC ((y.1.log).getD (i) Ad)) x w') (σ 53) w1:=h 53 (by decide)
    exact Yk.loadPR a5 (NH).choose_spec rfl (by rw[Bp];exact Iy) ⟨Ext.refl _,rfl⟩
   ·refine Aa rfl fun σ w1 hC h=> ?_
    have e3:=(Ae (h 3 (by decide))).trans s
    exact Yk.fieldAt Eo e3 ⟨Ext.refl _,rfl⟩
   ·refine Aa rfl fun σ w1 hC h=> ?_
    have a7:=Ae (h 55 (by decide))
    exact Yk.cell1 EA rfl a7 (Al (eb hC j) (show(refsC z)[35]? =some (z.2.log:Value)from Bn z)) ⟨Ext.refl _,rfl⟩
   ·refine Aa rfl fun σ w1 hC h=> ?_
    have e5:=(Ae (h 5 (by decide))).trans q
    exact Yk.move e5 ⟨Ext.refl _,rfl⟩
   ·refine Aa rfl fun σ w1 hC h=> ?_
    have a8:=Ae (h 56 (by decide))
    have a9:=Ae (h 57 (by decide))
    exact Yk.atRG EA MM (by decide) Ad (RG.of (hnl.keep (hE.trans hC)) a8) a9 (by omega) fun v h=>⟨Ext.refl _,h⟩
   ·refine Aa rfl fun σ w1 hC h=> ?_
    have ba:(fun x w' =>PR (entC ((y.1.log).getD (i) Ad)) x w') (σ 58) w1:=h 58 (by decide)
    exact Yk.loadPR ba (NH).choose_spec rfl (by rw[Bp];exact Iy) ⟨Ext.refl _,rfl⟩
   ·refine Aa rfl fun σ w1 hC h=> ?_
    have bb:=Ae (h 54 (by decide))
    have bc:=Ae (h 59 (by decide))
    exact Yk.neStr OD bb bc (Rz _ (y.1.log.getD i Ad)) ⟨Ext.refl _,rfl⟩
  intro bd b3 ab he hf
  obtain⟨-,-,-,-,-,-,-,-,-,-,k60,-⟩:=hf
  obtain⟨n,o,r,s,q,t,-⟩:=he.hold [(0,_),(1,_),(2,_),(3,_),(5,_),(42,_)] ⟨n,o,r,s,q,t,trivial⟩ rfl
  clear he
  have hE:=hE.trans ab
  have c:=eb ab c
  have p:=p.trans ab
  have j:=eb ab j
  have af:bd 60 = .bool (false):=k60
  clear k60
  refine tN (az _ _ (AH af (Aq (bN (tN (ay _ _ (wt (oM rfl (oS rfl (Yk.bin (xv:=NI i) (yv:=NI 1) q rfl rfl (AA _ _ _ (by have:=hL.log;omega)) (oA rfl (A3 [(0, .agg (refsC y).toArray),(1, .agg (refsC z).toArray),(2,PQ f 0),(3,PQ g 0),(5,NI ((i)+(1))),(42, .bool (false)),(60, .bool (false))] ⟨n,o,r,s,rfl,t,af,trivial⟩ fun be ⟨n,o,r,s,q,t,af,_⟩=>(tN (And.intro ⟨i+1,n,o,r,s,t,q,hE,c,p,j,by omega,trivial⟩ ?_))))))))))))))
  show y.1.log.length-(intOf (be 5)).toNat<y.1.log.length-(intOf (av 5)).toNat
  rw[q,q5]
  simp only[intOf,Int.toNat_natCast];omega
 refine AP (Ar (Ar (Az (tN (ar _ _ (sk fun b4 bf=>(wt (oA rfl (oZ (tN (bf _ _ (Am (Aj (fn:=Tryz.f10) _ rfl [.bool (true)] (.bool (true)) rfl ⟨rfl,trivial⟩ ?_)))))))))))))
 exact⟨rfl,hE⟩
open Go.RowKit
set_option maxRecDepth 100000
theorem PM:By zeroR:=⟨by decide,by decide,by decide,by decide,by decide,by decide⟩
theorem OE:zeroR.branches.length≤80∧zeroR.tags.length≤80∧zeroR.log.length≤80:=by decide
theorem OF{r:A0}(h:AO r=true):r.branches.length≤80∧r.tags.length≤80∧r.log.length≤80:=by
 obtain⟨h1,h2⟩:=Gm.1 h
 have h3:=(DD.1 h1.br).2.2
 have h4:=(DD.1 h1.tg).2.2
 omega
theorem PN{r:A0}(h:AO r=true):By r:=by
 obtain⟨h1,h2⟩:=Gm.1 h
 have h3:=DD.1 h1.br
 have h4:=DD.1 h1.tg
 refine⟨by have:=h3.2.2;omega,by have:=h4.2.2;omega,by omega,fun u hu=>by have:=(D4 (h3.1 u hu).1).2;omega,fun u hu=>by have:=(D4 (h4.1 u hu).1).2;omega,?_⟩
 have hh:=h1.hd
 unfold Fv at hh
 by_cases h0:r.head= []
 ·rw[h0];simp
 ·simp only[decide_eq_true h0,Bool.true_and,Bool.or_eq_false_iff,Bool.not_eq_false']at hh
  have:=(D4 hh.1.1).2
  omega
set_option maxHeartbeats 1600000
open Go.RowKit
set_option maxRecDepth 100000
theorem CM{α β:Type}{f:α→List β}{l:List α}{i:Nat}(d:α)(h:i<l.length):(l.take (i+1)).flatMap f=(l.take i).flatMap f++f (l.getD i d):=by
 rw[List.take_succ_eq_append_getElem h,List.flatMap_append,List.flatMap_cons,List.flatMap_nil,List.append_nil,List.getD_eq_getElem?_getD,List.getElem?_eq_getElem h];rfl
set_option maxHeartbeats 1600000
set_option maxHeartbeats 1600000
open Go.RowKit
def Ci(n:AK):Bs:=Bd n.name++n.id.1
def Ej(l:List AK):Bs:=Lib.uvarint l.length++l.flatMap Ci
def Co(e:AM):Bs:=(((([e.kind]++Bd e.name)++e.old.1)++e.new.1))++Bd e.note
def encR(r:A0):Bs:=((((Ej r.branches++Ej r.tags)++Bd r.head)++r.at_.1)++Lib.uvarint r.log.length)++r.log.flatMap Co
def lsB(r:A0)(i:Nat):Bs:=if i=0 then []else if i=1 then Ej r.branches else Ej r.branches++Ej r.tags
theorem IT{r:A0}{i:Nat}(h:i=0):lsB r i= []:=if_pos h
theorem Hw{r:A0}{i:Nat}(h:i=1):lsB r i=Ej r.branches:=by subst h;rfl
theorem IU{r:A0}{i:Nat}(h:i=2):lsB r i=Ej r.branches++Ej r.tags:=by subst h;rfl
theorem Ca{s:Bs}{n:Nat}(h:s.length≤n)(hn:n≤4611686018427387904):(Bd s).length≤n+9:=by
  have:=Cx (n:=s.length) (by omega)
  unfold Bd;rw[List.length_append];omega
theorem FA{α:Type}{f:α→Bs}{c:Nat}:∀ {l:List α},(∀a∈l,(f a).length≤c)→(l.flatMap f).length≤c*l.length
  | [],_=>Nat.zero_le _
  | a :: l,h=>by
    have h1:=h a (by simp)
    have h2:=FA (l:=l) (fun x hx=>h x (by simp[hx]))
    rw[List.flatMap_cons,List.length_append,List.length_cons,Nat.mul_add,Nat.mul_one]
    omega
theorem Lx{n:AK}(h:n.name.length≤32):(Ci n).length≤73:=by
  unfold Ci
  have:=Ca h (by omega)
  rw[List.length_append,n.id.2];omega
theorem PO{e:AM}(h:e.name.length≤32)(h2:e.note.length≤256):(Co e).length≤371:=by
  unfold Co
  have:=Ca h (by omega)
  have:=Ca h2 (by omega)
  simp only[List.length_append,List.length_singleton,e.old.2,e.new.2];omega
structure PP (r : A0) : Prop where
  bl:r.branches.length≤64
  tl:r.tags.length≤64
  ll:r.log.length≤64
  bn:∀n∈r.branches,n.name.length≤32
  tn:∀n∈r.tags,n.name.length≤32
  hd:r.head.length≤32
  ln:∀e∈r.log,e.name.length≤32∧e.note.length≤256
theorem J3{r:A0}(h:AO r=true):PP r:=by
  obtain⟨h1,h2⟩:=Gm.1 h
  have h3:=DD.1 h1.br
  have h4:=DD.1 h1.tg
  refine⟨h3.2.2,h4.2.2,h2,fun n hn=>(D4 (h3.1 n hn).1).2,fun n hn=>(D4 (h4.1 n hn).1).2,?_,fun e he=>⟨(h1.lg e he).2.2,?_⟩⟩
  · have hh:=h1.hd
    unfold Fv at hh
    by_cases h0:r.head= []
    · rw[h0];simp
    · simp only[decide_eq_true h0,Bool.true_and,Bool.or_eq_false_iff,Bool.not_eq_false']at hh
      exact(D4 hh.1.1).2
  · have h5:=(h1.lg e he).2.1
    unfold BL at h5
    rw[Bool.and_eq_true]at h5
    exact of_decide_eq_true h5.1
theorem OH{l:List AK}(h:l.length≤64)(hn:∀n∈l,n.name.length≤32):(Ej l).length≤4681:=by
  unfold Ej
  have h1:=FA (f:=Ci) (c:=73) (l:=l) (fun n hm=>Lx (hn n hm))
  have h2:=Cx (n:=l.length) (by omega)
  rw[List.length_append];omega
theorem Hx{r:A0}(h:PP r)(i:Nat):(lsB r i).length≤9362:=by
  have h1:=OH h.bl h.bn
  have h2:=OH h.tl h.tn
  unfold lsB
  split
  · simp
  · split
    · omega
    · rw[List.length_append];omega
theorem Gs{l:List AK}(h:l.length≤64)(hn:∀n∈l,n.name.length≤32)(i:Nat):((l.take i).flatMap Ci).length≤4672:=by
  have h1:=FA (f:=Ci) (c:=73) (l:=l.take i) (fun n hm=>Lx (hn n (List.mem_of_mem_take hm)))
  have h2:=List.length_take_le i l
  have h3:(l.take i).length≤l.length:=by rw[List.length_take];omega
  omega
theorem Ly{r:A0}(h:PP r)(i:Nat):((r.log.take i).flatMap Co).length≤23744:=by
  have h1:=FA (f:=Co) (c:=371) (l:=r.log.take i) (fun e hm=>PO (h.ln e (List.mem_of_mem_take hm)).1 (h.ln e (List.mem_of_mem_take hm)).2)
  have h3:(r.log.take i).length≤r.log.length:=by rw[List.length_take];omega
  have:=h.ll
  omega
open Go.RowKit
theorem FP:∀(l:Bs) (k:Nat) (x:Nat × Nat),AT k l=some x→l=Lib.uvarint x.1++l.drop x.2∧(0<k→0<x.1)
  | [],k,x,h=>by simp[AT]at h
  | c :: r,k,x,h=>by
    have hc:=c.toNat_lt
    unfold AT at h
    split at h
    · split at h
      · cases h
      · obtain⟨y,hy,rfl⟩:=Option.map_eq_some_iff.1 h
        obtain⟨h1,h2⟩:=FP r (k+1) y hy
        have h2:=h2 (by omega)
        have a:(c.toNat-128+128*y.1)%128+128=c.toNat:=by omega
        have b:(c.toNat-128+128*y.1)/128=y.1:=by omega
        refine⟨?_,fun _=>by simp only;omega⟩
        simp only
        rw[Lib.uvarint_big (by omega),a,b,List.drop_succ_cons,List.cons_append,←h1]
        simp
    · split at h
      · cases h
      · rename_i h1 h2
        cases h
        refine⟨?_,fun _=>by simp only;omega⟩
        simp only
        rw[Lib.uvarint_small (by omega)]
        simp
theorem QI{b:Bs}{i n:Nat}{c:UInt8}(h:DC b i=some (c,n)):b.drop i= [c]++b.drop n:=by
  unfold DC at h
  split at h
  · cases h
    rename_i hi
    rw[NC 0 hi]
    rfl
  · cases h
theorem Rg{b:Bs}{i n k:Nat}(h:Di b i=some (k,n)):b.drop i=Lib.uvarint k++b.drop n:=by
  unfold Di at h
  obtain⟨x,hx,h2⟩:=Option.map_eq_some_iff.1 h
  cases h2
  have:=(FP _ _ _ hx).1
  rwa [List.drop_drop]at this
theorem KJ{b:Bs}{i n:Nat}{x:BS}(h:C9 b i=some (x,n)):b.drop i=x.1++b.drop n:=by
  unfold C9 at h
  split at h
  · cases h
    show b.drop i=(b.drop i).take 32++b.drop (i+32)
    rw[←List.drop_drop,List.take_append_drop]
  · cases h
theorem IV{b s:Bs}{i n most:Nat}(h:BB b i most=some (s,n)):b.drop i=Bd s++b.drop n:=by
  unfold BB at h
  split at h
  · cases h
  · rename_i x hx
    split at h
    · cases h
    · split at h
      · cases h
      · cases h
        have h1:=(FP _ _ _ hx).1
        rw[List.drop_drop]at h1
        have hl:((b.drop (i+x.2)).take x.1).length=x.1:=by rw[List.length_take,List.length_drop];omega
        unfold Bd
        rw[hl,List.append_assoc,←List.drop_drop (i:=x.1),List.take_append_drop]
        exact h1
theorem Qd{α:Type}{f:α→Bs}{Q:α→Prop}{b:Bs}{st:List α × Nat→Option (List α × Nat)}(hst:∀a i t,st (a,i)=some t→∃x,t.1=a++ [x]∧Q x∧b.drop i=f x++b.drop t.2):∀(n:Nat) (a:List α) (i:Nat) (t:List α × Nat),CT st n (a,i)=some t→∃l,t.1=a++l∧l.length=n∧(∀x∈l,Q x)∧b.drop i=l.flatMap f++b.drop t.2
  | 0,a,i,t,h=>by cases h;exact⟨[],by simp,rfl,(fun x hx=>by cases hx),rfl⟩
  | n+1,a,i,t,h=>by
    obtain⟨u,h1,h2⟩:=Ib h
    obtain⟨l,c,e,g,j⟩:=Qd hst n a i u h1
    obtain⟨x,f1,f2,f3⟩:=hst u.1 u.2 t h2
    refine⟨l++ [x],by rw[f1,c,List.append_assoc],by simp[e],fun y hy=> ?_,?_⟩
    · rcases List.mem_append.1 hy with hy | hy
      · exact g y hy
      · rw[List.mem_singleton.1 hy];exact f2
    · rw[j,f3,List.flatMap_append,List.flatMap_singleton,List.append_assoc]
theorem Mt{α:Type}{f:α→Bs}{Q:α→Prop}{b:Bs}{most i:Nat}{st:List α × Nat→Option (List α × Nat)}{t:List α × Nat}(hst:∀a i t,st (a,i)=some t→∃x,t.1=a++ [x]∧Q x∧b.drop i=f x++b.drop t.2)(h:Gf b i most st []=some t):b.drop i=(Lib.uvarint t.1.length++t.1.flatMap f)++b.drop t.2∧∀x∈t.1,Q x:=by
  obtain⟨n,j,h1,-,h2⟩:=NP h
  obtain⟨l,c,e,g,k⟩:=Qd hst n [] j t h2
  rw[List.nil_append]at c
  rw[c,Rg h1,e,k,List.append_assoc]
  exact⟨rfl,g⟩
end Go.Proofs.YtmonlobfofkbdaaGreatDoor
