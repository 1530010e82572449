/- Part 3 of what stands behind these statements: laws and walks of the functions that are reached. Conditions: those that each theorem names. -/
import Derived.Test.YtmonlobfofkbdaaGreatDoorY2
set_option linter.unusedVariables false
set_option linter.unusedSimpArgs false
namespace Go.Proofs.YtmonlobfofkbdaaGreatDoor
open Go.RowKit
set_option maxRecDepth 100000
theorem RB.new{w:World}{v:Value}{b:Bs}{r:Nat}(hr:RB w v b)(h:w.heap.size≤r):b= []∨OB v r:=by
 rcases b with _ | ⟨b0,b1⟩
 ·exact .inl rfl
 ·exact .inr fun e=>by have:=RB.lt hr (by simp) e;omega
theorem Li:Tryz.prog.underlying 3=some (.int .i64):=by kernel_rfl
theorem Fy:AI Tryz.prog 53:=fun _ _=>by kernel_rfl
set_option maxHeartbeats 1600000
theorem C1(w:World)(v:Value)(l:List UInt8)(hr:RB w v l)(a:Nat)(ha:a≤l.length)(hl:l.length≤1073741824):
  Calls Tryz.prog 53 #[v,NI a] w fun e w' =>e = .returned (Dn a (AT 0 (l.drop a)))∧Ext w w' :=by
 refine As (args:= [v,NI a]) Tryz.func53 rfl 71 rfl (Nat.le_of_ble_eq_true rfl) ?_
 intro s hb
 have g:s 0=(v:Value):=hb.get 0
 have f:s 1=(NI a:Value):=hb.get 1
 clear hb
 have hE:=Ext.refl w
 refine sk fun K1 af=>(wt (oA rfl (oA rfl (oA rfl (oZ (tN (af _ _ (sk fun K2 ag=>(sk fun K3 ah=>(wt (oM rfl (oS rfl (Yk.eqI (a:=(a:Nat)) (b:=(0:Nat)) f rfl (AX _ _ _ _) (oM rfl (oY (d:=12) rfl rfl (vr (.bool (false)) (congrArg Value.bool (decide_eq_false (by omega)))) (Yk.move f (oY (d:=12) rfl rfl (vr (.bool (false)) (congrArg Value.bool (decide_eq_false (by omega)))) (Yk.move g (oY (d:=12) rfl rfl (vr (.bool (false)) (congrArg Value.bool (decide_eq_false (by omega)))) (Yk.lenRB Ek (RB.of (hr.keep hE) (vr v rfl)) ?_))))))))))))))))))))
 refine oY (d:=12) rfl rfl (vr (.bool (false)) (congrArg Value.bool (decide_eq_false (by omega)))) (Yk.eqI (a:=(a:Nat)) (b:=(l.length:Nat)) rfl rfl (BA _ _ _ _) (oS rfl (Yk.pickF (vr (.bool (false)) (congrArg Value.bool (decide_eq_false (by omega)))) (vr (.bool (false)) (congrArg Value.bool (decide_eq_false (by omega)))) (oZ (tN (ah _ _ (AH (vr (.bool (false)) rfl) (Aq (tN (ag _ _ (sk fun K4 u=>(sk fun K5 ai=>(wt (oA rfl (A3 [(0,v),(1,NI a),(4,NI 0),(5,NI 0),(6,NI 0),(7,NI 1),(17, .bool (false))] ⟨g,f,rfl,rfl,rfl,rfl,rfl,trivial⟩ fun bs ⟨g,f,T4,T5,T6,c,k,_⟩=>(tN (ai _ _ (Av (A4 (fun(ρ:Au) (wz:World)=>∃j:Nat,ρ 0=(v:Value)∧ρ 1=(NI a:Value)∧ρ 17=(.bool (false):Value)∧ρ 7=(NI (j+1):Value)∧Ext w wz∧(j≤9)∧(j≤l.length-a)∧(∀t,t<j→128≤((l.drop a).getD t 0).toNat)∧True) (fun ρ _=>10-(intOf (ρ 7)).toNat) ⟨0,g,f,k,c,hE,by omega,by omega,fun t ht=>by omega,trivial⟩ ?_)))))))))))))))))))
 clear hE
 rintro aj w8 ⟨j,g,f,k,c,hE,hj,hjl,hbig,-⟩
 have q7:=c
 by_cases g1:j<9
 ·by_cases g2:j<l.length-a
  ·have hix:l.getD (a+(j+1)-1) 0=(l.drop a).getD j 0:=by rw[Gg];congr 1
   have hld:(l.drop a).length=l.length-a:=List.length_drop
   refine sk fun K9 ak=>(sk fun bz al=>(wt (oM rfl (oS rfl (Yk.eqI (a:=(j+1:Nat)) (b:=(9:Nat)) c rfl (Cs _ _ _ _) (oM rfl (oY (d:=20) rfl rfl (vr (.bool (true)) (congrArg Value.bool (decide_eq_true (by omega)))) (Yk.move c (oY (d:=20) rfl rfl (vr (.bool (true)) (congrArg Value.bool (decide_eq_true (by omega)))) (Yk.move g (oY (d:=20) rfl rfl (vr (.bool (true)) (congrArg Value.bool (decide_eq_true (by omega)))) (Yk.lenRB Ek (RB.of (hr.keep hE) (vr v rfl)) (oY (d:=20) rfl rfl (vr (.bool (true)) (congrArg Value.bool (decide_eq_true (by omega)))) (Yk.move f (oY (d:=20) rfl rfl (vr (.bool (true)) (congrArg Value.bool (decide_eq_true (by omega)))) (Yk.bin (xv:=NI l.length) (yv:=NI a) rfl rfl rfl (B5 _ _ _ (by omega) (by omega)) (oY (d:=20) rfl rfl (vr (.bool (true)) (congrArg Value.bool (decide_eq_true (by omega)))) (Yk.eqI (a:=(j+1:Nat)) (b:=((l.length)-(a):Nat)) rfl rfl (Cs _ _ _ _) (oS rfl (Yk.pickT (vr (.bool (true)) (congrArg Value.bool (decide_eq_true (by omega)))) (vr (.bool (true)) (congrArg Value.bool (decide_eq_true (by omega)))) (oZ (tN (al _ _ (wpF_true (vr (.bool (true)) rfl) ?_))))))))))))))))))))))))
   refine Aq (tN (ak _ _ (sk fun b0 am=>(Av (sk fun b1 x=>(sk fun b2 an=>(wt (oM rfl (oM rfl (oM rfl (oS rfl (Yk.bin (xv:=NI a) (yv:=NI (j+1)) f c rfl (AA _ _ _ (by omega)) (oS rfl (Yk.bin (xv:=NI ((a)+(j+1))) (yv:=NI 1) rfl rfl rfl (B5 _ _ _ (by omega) (by omega)) (oS rfl (Yk.atRB (l:=l) (i:=((a)+(j+1))-(1)) Ek MH (RB.of (hr.keep hE) g) (vr (NI (((a)+(j+1))-(1))) rfl) (by omega) fun ao y=>(oS rfl (Yk.loadC u5 rfl (PCell.of y (vr ao rfl)) (oS rfl (Yk.eqI (a:=((l.getD (((a)+(j+1))-(1)) 0).toNat:Nat)) (b:=(128:Nat)) rfl rfl (Ds _ _ _ _) (oZ ?_)))))))))))))))))))))
   clear y
   refine tN (an _ _ ?_)
   refine AL ((128)≤((l.getD (((a)+(j+1))-(1)) 0).toNat)) (vr (.bool (decide ((128)≤((l.getD (((a)+(j+1))-(1)) 0).toNat)))) rfl) (fun aa=> ?_) (fun aa=> ?_)
   ·refine AP (Ar (Az (tN (am _ _ (wt (oM rfl (oS rfl (Yk.bin (xv:=NI (j+1)) (yv:=NI 1) c rfl rfl (AA _ _ _ (by omega)) (oA rfl (A3 [(0,v),(1,NI a),(7,NI ((j+1)+(1))),(17, .bool (false)),(27, .bool (true))] ⟨g,f,rfl,k,rfl,trivial⟩ fun ap ⟨g,f,c,k,o,_⟩=>(tN (And.intro ⟨j+1,g,f,k,c,hE,by omega,by omega,fun t ht=>by by_cases e:t=j;(rw[e,←hix];exact aa);exact hbig t (by omega),trivial⟩ ?_))))))))))))
    show 10-(intOf (ap 7)).toNat<10-(intOf (aj 7)).toNat
    rw[c,q7]
    simp only[intOf,Int.toNat_natCast];omega
   by_cases z1:1<j+1
   ·refine Aq (tN (x _ _ (sk fun b3 aq=>(sk fun b4 ar=>(wt (oM rfl (oS rfl (Yk.eqI (a:=(j+1:Nat)) (b:=(1:Nat)) c rfl (BA _ _ _ _) (oM rfl (oY (d:=40) rfl rfl (vr (.bool (true)) (congrArg Value.bool (decide_eq_true (z1)))) (Yk.move g (oY (d:=40) rfl rfl (vr (.bool (true)) (congrArg Value.bool (decide_eq_true (z1)))) (Yk.move f (oY (d:=40) rfl rfl (vr (.bool (true)) (congrArg Value.bool (decide_eq_true (z1)))) (Yk.move c (oY (d:=40) rfl rfl (vr (.bool (true)) (congrArg Value.bool (decide_eq_true (z1)))) (Yk.bin (xv:=NI a) (yv:=NI (j+1)) rfl rfl rfl (AA _ _ _ (by omega)) (oY (d:=40) rfl rfl (vr (.bool (true)) (congrArg Value.bool (decide_eq_true (z1)))) (Yk.bin (xv:=NI ((a)+(j+1))) (yv:=NI 1) rfl rfl rfl (B5 _ _ _ (by omega) (by omega)) (oY (d:=40) rfl rfl (vr (.bool (true)) (congrArg Value.bool (decide_eq_true (z1)))) (Yk.atRB (l:=l) (i:=((a)+(j+1))-(1)) Ek MH (RB.of (hr.keep hE) (vr v rfl)) (vr (NI (((a)+(j+1))-(1))) rfl) (by omega) fun au ab=>(oY (d:=40) rfl rfl (vr (.bool (true)) (congrArg Value.bool (decide_eq_true (z1)))) (Yk.loadC u5 rfl (PCell.of ab (vr au rfl)) (oY (d:=40) rfl rfl (vr (.bool (true)) (congrArg Value.bool (decide_eq_true (z1)))) (Yk.eqI (a:=((l.getD (((a)+(j+1))-(1)) 0).toNat:Nat)) (b:=(0:Nat)) rfl rfl (A2 _ _ _ _) ?_)))))))))))))))))))))))))
    refine oS rfl (Yk.pickT (vr (.bool (true)) (congrArg Value.bool (decide_eq_true (z1)))) (vr (.bool (decide (((l.getD (((a)+(j+1))-(1)) 0).toNat:Nat)=(0)))) rfl) (oZ ?_))
    clear ab
    refine tN (ar _ _ ?_)
    refine AL (((l.getD (((a)+(j+1))-(1)) 0).toNat:Nat)=(0)) (vr (.bool (decide (((l.getD (((a)+(j+1))-(1)) 0).toNat:Nat)=(0)))) rfl) (fun ac=> ?_) (fun ac=> ?_)
    ·refine sk fun b5 av=>(wt (oA rfl (oA rfl (oA rfl (oZ (tN (av _ _ (Am (An (AE (An (An (AE (An (Aj (fn:=Tryz.f53) _ rfl [NI 0,NI 0,NI 6] (.tuple #[NI 0,NI 0,NI 6]) rfl ⟨rfl,rfl,rfl,trivial⟩ ?_)))))))))))))))
     have hno:AT 0 (l.drop a)=none:=HT j 0 _ hbig (by omega) (by rw[←hix];exact ac) (by omega)
     rw[hno]
     exact⟨rfl,hE⟩
    refine Aq (tN (aq _ _ (sk fun b6 aw=>(wt (oA rfl (oZ (tN (aw _ _ (sk fun b7 ax=>(sk fun b8 ay=>(wt (oM rfl (oS rfl (Yk.bin (xv:=NI (j+1)) (yv:=NI 1) c rfl rfl (B5 _ _ _ (by omega) (by omega)) (oA rfl (A3 [(0,v),(1,NI a),(7,NI (j+1)),(8,NI 0),(9,NI ((j+1)-(1))),(17, .bool (false)),(27, .bool (true))] ⟨g,f,c,rfl,rfl,k,rfl,trivial⟩ fun b9 ⟨g,f,c,m,h,k,o,_⟩=>(tN (ay _ _ (Av ?_)))))))))))))))))))
    refine A4 (fun(ρ:Au) (wz:World)=>∃i:Nat,∃n:Nat,ρ 0=(v:Value)∧ρ 1=(NI a:Value)∧ρ 7=(NI (j+1):Value)∧ρ 17=(.bool (false):Value)∧ρ 27=(.bool (true):Value)∧ρ 9=(.int .i64 ((i:Int)-1:Int):Value)∧ρ 8=(NI n:Value)∧Ext w wz∧(i≤j+1)∧(n=DV (((l.drop a).take (j+1)).drop i))∧True) (fun ρ _=>((match (ρ 9)with | .int _ z=>z+1 | _=>0):Int).toNat) ⟨j+1,0,g,f,c,k,o,(show _=_ from h.trans (congrArg (Value.int .i64) (by omega))),m,hE,Nat.le_refl _,by rw[List.drop_of_length_le (by rw[List.length_take];omega)];rfl,trivial⟩ ?_
    clear hE
    rintro az ca ⟨i,n,g,f,c,k,o,h,m,hE,hij,hn,-⟩
    have q9:=h
    refine sk fun cb a0=>(sk fun cc a1=>(wt (oM rfl (oS rfl (Yk.eqI h (vr (NI 0) rfl) (P3 _ .i64 ((i:Int)-1:Int) ((0:Nat):Int)) (A3 [(0,v),(1,NI a),(7,NI (j+1)),(8,NI n),(9, .int .i64 ((i:Int)-1:Int)),(17, .bool (false)),(27, .bool (true)),(53, .bool (decide (((0:Nat):Int)≤((i:Int)-1:Int))))] ⟨g,f,c,m,h,k,o,rfl,trivial⟩ fun cd ⟨g,f,c,m,h,k,o,q,_⟩=>(tN (a1 _ _ ?_))))))))
    refine AL (((0:Nat):Int)≤((i:Int)-1:Int)) q (fun r=> ?_) (fun r=> ?_)
    ·have hi1:1≤i:=by omega
     have hvl:=Jc (((l.drop a).take (j+1)).drop i)
     have hpw:128^(((l.drop a).take (j+1)).drop i).length≤128^8:=Nat.pow_le_pow_right (by decide) (by rw[List.length_drop,List.length_take];omega)
     have hnb:n<128^8:=by rw[hn];exact Nat.lt_of_lt_of_le hvl hpw
     have h:=h.trans (congrArg (Value.int .i64) (show((i:Int)-1:Int)=((i-1:Nat):Int) by omega))
     refine Aq (tN (a0 _ _ (sk fun ce a2=>(Av (wt (oM rfl (oS rfl (Yk.bin (xv:=NI n) (yv:=NI 128) m rfl rfl (Mi _ _ _ (by omega)) (oM rfl (oM rfl (oM rfl (oS rfl (Yk.bin (xv:=NI a) (yv:=NI (i-1)) f h rfl (AA _ _ _ (by omega)) (oS rfl (Yk.atRB (l:=l) (i:=(a)+(i-1)) Ek MH (RB.of (hr.keep hE) g) (vr (NI ((a)+(i-1))) rfl) (by omega) fun a3 ad=>(oS rfl (Yk.loadC u5 rfl (PCell.of ad (vr a3 rfl)) (oS rfl (Yk.convI u5 Li (vr (B8 (l.getD ((a)+(i-1)) 0)) rfl) (C6 .i64 (l.getD ((a)+(i-1)) 0) (fun n hn=>BJ n (by omega))) (oS rfl (Yk.bin (xv:=NI ((l.getD ((a)+(i-1)) 0).toNat)) (yv:=NI 128) rfl rfl rfl (DY _ _ _ (by decide)) (oS rfl (Yk.bin (xv:=NI ((n)*(128))) (yv:=NI (((l.getD ((a)+(i-1)) 0).toNat)%(128))) rfl rfl rfl (AA _ _ _ (by omega)) ?_)))))))))))))))))))))))
     refine oA rfl (oZ ?_)
     clear ad
     refine bN (tN (a2 _ _ (wt (oM rfl (oS rfl (Yk.bin (xv:=NI (i-1)) (yv:=NI 1) h rfl rfl (Ml _ (i-1) (by omega)) (oA rfl (A3 [(0,v),(1,NI a),(7,NI (j+1)),(8,NI (((n)*(128))+(((l.getD ((a)+(i-1)) 0).toNat)%(128)))),(9, .int .i64 (((i-1:Nat):Int)-1:Int)),(17, .bool (false)),(27, .bool (true))] ⟨g,f,c,rfl,rfl,k,o,trivial⟩ fun a4 ⟨g,f,c,m,h,k,o,_⟩=>(tN (And.intro ⟨i-1,n*128+(l.getD (a+(i-1)) 0).toNat%128,g,f,c,k,o,h,m,hE,by omega,by rw[JE _ (i-1) (j+1) (by omega) (by omega),show i-1+1=i by omega,←hn,Gg];omega,trivial⟩ ?_))))))))))
     show((match (a4 9)with | .int _ z=>z+1 | _=>0):Int).toNat<((match (az 9)with | .int _ z=>z+1 | _=>0):Int).toNat
     rw[h,q9]
     simp only[Int.sub_add_cancel];omega
    have hi0:i=0:=by omega
    refine AP (Ar (Ar (Az (tN (ax _ _ (sk fun cf a5=>(wt (oM rfl (oM rfl (oM rfl (oS rfl (Yk.bin (xv:=NI a) (yv:=NI (j+1)) f c rfl (AA _ _ _ (by omega)) (oA rfl (oA rfl (oA rfl (oZ (tN (a5 _ _ (Am (AE (An (An (AE (An (Aj (fn:=Tryz.f53) _ rfl [NI n,NI ((a)+(j+1)),NI 0] (.tuple #[NI n,NI ((a)+(j+1)),NI 0]) rfl ⟨m,rfl,rfl,trivial⟩ ?_)))))))))))))))))))))))))
    have hyes:AT 0 (l.drop a)=some (DV ((l.drop a).take (j+1)),j+1):=Gh j 0 _ hbig (by omega) (by rw[←hix];omega) (by omega) (by rw[←hix];omega)
    rw[hi0,List.drop_zero]at hn
    rw[hyes,←hn]
    exact⟨rfl,hE⟩
   refine Aq (tN (x _ _ (sk fun cg a6=>(sk fun ch a7=>(wt (oM rfl (oS rfl (Yk.eqI (a:=(j+1:Nat)) (b:=(1:Nat)) c rfl (BA _ _ _ _) (oM rfl (oN (d:=40) rfl rfl rfl (vr (.bool (false)) (congrArg Value.bool (decide_eq_false (z1)))) rfl (oN (d:=40) rfl rfl rfl (vr (.bool (false)) (congrArg Value.bool (decide_eq_false (z1)))) rfl (oN (d:=40) rfl rfl rfl (vr (.bool (false)) (congrArg Value.bool (decide_eq_false (z1)))) rfl (oN (d:=40) rfl rfl rfl (vr (.bool (false)) (congrArg Value.bool (decide_eq_false (z1)))) rfl (oN (d:=40) rfl rfl rfl (vr (.bool (false)) (congrArg Value.bool (decide_eq_false (z1)))) rfl (oN (d:=40) rfl rfl rfl (vr (.bool (false)) (congrArg Value.bool (decide_eq_false (z1)))) rfl (oN (d:=40) rfl rfl rfl (vr (.bool (false)) (congrArg Value.bool (decide_eq_false (z1)))) rfl (oN (d:=40) rfl rfl rfl (vr (.bool (false)) (congrArg Value.bool (decide_eq_false (z1)))) rfl ?_)))))))))))))))))
   refine oS rfl (Yk.pickF (vr (.bool (false)) (congrArg Value.bool (decide_eq_false (z1)))) (vr (.bool (false)) rfl) (oZ (tN (a7 _ _ (AH (vr (.bool (false)) rfl) (Aq (tN (a6 _ _ (sk fun ci a8=>(wt (oA rfl (oZ (tN (a8 _ _ (sk fun cj a9=>(sk fun ck ba=>(wt (oM rfl (oS rfl (Yk.bin (xv:=NI (j+1)) (yv:=NI 1) c rfl rfl (B5 _ _ _ (by omega) (by omega)) ?_))))))))))))))))))))
   refine oA rfl (A3 [(0,v),(1,NI a),(7,NI (j+1)),(8,NI 0),(9,NI ((j+1)-(1))),(17, .bool (false)),(27, .bool (true)),(49, .bool (false))] ⟨g,f,c,rfl,rfl,k,rfl,rfl,trivial⟩ fun cl ⟨g,f,c,m,h,k,o,p,_⟩=>(tN (ba _ _ (Av (A4 (fun(ρ:Au) (wz:World)=>∃i:Nat,∃n:Nat,ρ 0=(v:Value)∧ρ 1=(NI a:Value)∧ρ 7=(NI (j+1):Value)∧ρ 17=(.bool (false):Value)∧ρ 27=(.bool (true):Value)∧ρ 49=(.bool (false):Value)∧ρ 9=(.int .i64 ((i:Int)-1:Int):Value)∧ρ 8=(NI n:Value)∧Ext w wz∧(i≤j+1)∧(n=DV (((l.drop a).take (j+1)).drop i))∧True) (fun ρ _=>((match (ρ 9)with | .int _ z=>z+1 | _=>0):Int).toNat) ⟨j+1,0,g,f,c,k,o,p,(show _=_ from h.trans (congrArg (Value.int .i64) (by omega))),m,hE,Nat.le_refl _,by rw[List.drop_of_length_le (by rw[List.length_take];omega)];rfl,trivial⟩ ?_)))))
   clear hE
   rintro bb cm ⟨i,n,g,f,c,k,o,p,h,m,hE,hij,hn,-⟩
   have q9:=h
   refine sk fun cn bc=>(sk fun co bd=>(wt (oM rfl (oS rfl (Yk.eqI h (vr (NI 0) rfl) (P3 _ .i64 ((i:Int)-1:Int) ((0:Nat):Int)) (A3 [(0,v),(1,NI a),(7,NI (j+1)),(8,NI n),(9, .int .i64 ((i:Int)-1:Int)),(17, .bool (false)),(27, .bool (true)),(49, .bool (false)),(53, .bool (decide (((0:Nat):Int)≤((i:Int)-1:Int))))] ⟨g,f,c,m,h,k,o,p,rfl,trivial⟩ fun cp ⟨g,f,c,m,h,k,o,p,q,_⟩=>(tN (bd _ _ ?_))))))))
   refine AL (((0:Nat):Int)≤((i:Int)-1:Int)) q (fun r=> ?_) (fun r=> ?_)
   ·have hi1:1≤i:=by omega
    have hvl:=Jc (((l.drop a).take (j+1)).drop i)
    have hpw:128^(((l.drop a).take (j+1)).drop i).length≤128^8:=Nat.pow_le_pow_right (by decide) (by rw[List.length_drop,List.length_take];omega)
    have hnb:n<128^8:=by rw[hn];exact Nat.lt_of_lt_of_le hvl hpw
    have h:=h.trans (congrArg (Value.int .i64) (show((i:Int)-1:Int)=((i-1:Nat):Int) by omega))
    refine Aq (tN (bc _ _ (sk fun cq be=>(Av (wt (oM rfl (oS rfl (Yk.bin (xv:=NI n) (yv:=NI 128) m rfl rfl (Mi _ _ _ (by omega)) (oM rfl (oM rfl (oM rfl (oS rfl (Yk.bin (xv:=NI a) (yv:=NI (i-1)) f h rfl (AA _ _ _ (by omega)) (oS rfl (Yk.atRB (l:=l) (i:=(a)+(i-1)) Ek MH (RB.of (hr.keep hE) g) (vr (NI ((a)+(i-1))) rfl) (by omega) fun bf ae=>(oS rfl (Yk.loadC u5 rfl (PCell.of ae (vr bf rfl)) (oS rfl (Yk.convI u5 Li (vr (B8 (l.getD ((a)+(i-1)) 0)) rfl) (C6 .i64 (l.getD ((a)+(i-1)) 0) (fun n hn=>BJ n (by omega))) (oS rfl (Yk.bin (xv:=NI ((l.getD ((a)+(i-1)) 0).toNat)) (yv:=NI 128) rfl rfl rfl (DY _ _ _ (by decide)) (oS rfl (Yk.bin (xv:=NI ((n)*(128))) (yv:=NI (((l.getD ((a)+(i-1)) 0).toNat)%(128))) rfl rfl rfl (AA _ _ _ (by omega)) ?_)))))))))))))))))))))))
    refine oA rfl (oZ ?_)
    clear ae
    refine bN (tN (be _ _ (wt (oM rfl (oS rfl (Yk.bin (xv:=NI (i-1)) (yv:=NI 1) h rfl rfl (Ml _ (i-1) (by omega)) (oA rfl (A3 [(0,v),(1,NI a),(7,NI (j+1)),(8,NI (((n)*(128))+(((l.getD ((a)+(i-1)) 0).toNat)%(128)))),(9, .int .i64 (((i-1:Nat):Int)-1:Int)),(17, .bool (false)),(27, .bool (true)),(49, .bool (false))] ⟨g,f,c,rfl,rfl,k,o,p,trivial⟩ fun bg ⟨g,f,c,m,h,k,o,p,_⟩=>(tN (And.intro ⟨i-1,n*128+(l.getD (a+(i-1)) 0).toNat%128,g,f,c,k,o,p,h,m,hE,by omega,by rw[JE _ (i-1) (j+1) (by omega) (by omega),show i-1+1=i by omega,←hn,Gg];omega,trivial⟩ ?_))))))))))
    show((match (bg 9)with | .int _ z=>z+1 | _=>0):Int).toNat<((match (bb 9)with | .int _ z=>z+1 | _=>0):Int).toNat
    rw[h,q9]
    simp only[Int.sub_add_cancel];omega
   have hi0:i=0:=by omega
   refine AP (Ar (Ar (Az (tN (a9 _ _ (sk fun cr bh=>(wt (oM rfl (oM rfl (oM rfl (oS rfl (Yk.bin (xv:=NI a) (yv:=NI (j+1)) f c rfl (AA _ _ _ (by omega)) (oA rfl (oA rfl (oA rfl (oZ (tN (bh _ _ (Am (AE (An (An (AE (An (Aj (fn:=Tryz.f53) _ rfl [NI n,NI ((a)+(j+1)),NI 0] (.tuple #[NI n,NI ((a)+(j+1)),NI 0]) rfl ⟨m,rfl,rfl,trivial⟩ ?_)))))))))))))))))))))))))
   have hyes:AT 0 (l.drop a)=some (DV ((l.drop a).take (j+1)),j+1):=Gh j 0 _ hbig (by omega) (by rw[←hix];omega) (by omega) (by rw[←hix];omega)
   rw[hi0,List.drop_zero]at hn
   rw[hyes,←hn]
   exact⟨rfl,hE⟩
  have hno:AT 0 (l.drop a)=none:=FM j 0 _ (by omega) hbig (.inl (by rw[List.length_drop];omega))
  refine sk fun cs ct=>(sk fun cu bi=>(wt (oM rfl (oS rfl (Yk.eqI (a:=(j+1:Nat)) (b:=(9:Nat)) c rfl (Cs _ _ _ _) (oM rfl (oY (d:=20) rfl rfl (vr (.bool (true)) (congrArg Value.bool (decide_eq_true (by omega)))) (Yk.move c (oY (d:=20) rfl rfl (vr (.bool (true)) (congrArg Value.bool (decide_eq_true (by omega)))) (Yk.move g (oY (d:=20) rfl rfl (vr (.bool (true)) (congrArg Value.bool (decide_eq_true (by omega)))) (Yk.lenRB Ek (RB.of (hr.keep hE) (vr v rfl)) (oY (d:=20) rfl rfl (vr (.bool (true)) (congrArg Value.bool (decide_eq_true (by omega)))) (Yk.move f (oY (d:=20) rfl rfl (vr (.bool (true)) (congrArg Value.bool (decide_eq_true (by omega)))) (Yk.bin (xv:=NI l.length) (yv:=NI a) rfl rfl rfl (B5 _ _ _ (by omega) (by omega)) (oY (d:=20) rfl rfl (vr (.bool (true)) (congrArg Value.bool (decide_eq_true (by omega)))) (Yk.eqI (a:=(j+1:Nat)) (b:=((l.length)-(a):Nat)) rfl rfl (Cs _ _ _ _) (oS rfl (Yk.pickT (vr (.bool (true)) (congrArg Value.bool (decide_eq_true (by omega)))) (vr (.bool (false)) (congrArg Value.bool (decide_eq_false (by omega)))) (oZ (tN (bi _ _ (AH (vr (.bool (false)) rfl) ?_))))))))))))))))))))))))
  refine AP (Ar (Ar (Az (tN (u _ _ (sk fun cv bj=>(wt (oA rfl (oA rfl (oA rfl (oZ (tN (bj _ _ (Am (Aj (fn:=Tryz.f53) _ rfl [NI 0,NI 0,NI 6] (.tuple #[NI 0,NI 0,NI 6]) rfl ⟨rfl,rfl,rfl,trivial⟩ ?_)))))))))))))))
  rw[hno]
  exact⟨rfl,hE⟩
 have hno:AT 0 (l.drop a)=none:=FM j 0 _ (by omega) hbig (.inr (by omega))
 refine sk fun cw cx=>(sk fun cy bk=>(wt (oM rfl (oS rfl (Yk.eqI (a:=(j+1:Nat)) (b:=(9:Nat)) c rfl (Cs _ _ _ _) (oM rfl (oN (d:=20) rfl rfl rfl (vr (.bool (false)) (congrArg Value.bool (decide_eq_false (by omega)))) rfl (oN (d:=20) rfl rfl rfl (vr (.bool (false)) (congrArg Value.bool (decide_eq_false (by omega)))) rfl (oN (d:=20) rfl rfl rfl (vr (.bool (false)) (congrArg Value.bool (decide_eq_false (by omega)))) rfl (oN (d:=20) rfl rfl rfl (vr (.bool (false)) (congrArg Value.bool (decide_eq_false (by omega)))) rfl (oN (d:=20) rfl rfl rfl (vr (.bool (false)) (congrArg Value.bool (decide_eq_false (by omega)))) rfl (oN (d:=20) rfl rfl rfl (vr (.bool (false)) (congrArg Value.bool (decide_eq_false (by omega)))) rfl (oS rfl (Yk.pickF (vr (.bool (false)) (congrArg Value.bool (decide_eq_false (by omega)))) (vr (.bool (false)) rfl) (oZ (tN (bk _ _ (AH (vr (.bool (false)) rfl) ?_))))))))))))))))))
 refine AP (Ar (Ar (Az (tN (u _ _ (sk fun cz bm=>(wt (oA rfl (oA rfl (oA rfl (oZ (tN (bm _ _ (Am (Aj (fn:=Tryz.f53) _ rfl [NI 0,NI 0,NI 6] (.tuple #[NI 0,NI 0,NI 6]) rfl ⟨rfl,rfl,rfl,trivial⟩ ?_)))))))))))))))
 rw[hno]
 exact⟨rfl,hE⟩

theorem L3(w:World)(v:Value)(l:List UInt8)(hr:RB w v l)(a:Nat)(ha:a≤l.length)(hl:l.length≤1073741824):
  Calls Tryz.prog 53 #[v,NI a] w fun e w' =>e = .returned (.tuple #[NI (Bh l a).1,NI (Bh l a).2.1,NI (Bh l a).2.2])∧Ext w w' :=by
 have h:=C1 w v l hr a ha hl
 have e:Dn a (AT 0 (l.drop a)) = .tuple #[NI (Bh l a).1,NI (Bh l a).2.1,NI (Bh l a).2.2]:=by
  unfold Bh
  cases AT 0 (l.drop a) <;> rfl
 rwa [e]at h

theorem Da(w:World)(v:Value)(l:Bs)(hr:RB w v l)(a mx:Nat)(ha:a≤l.length)(hl:l.length≤1073741824):
  Calls Tryz.prog 51 #[v,NI a,NI mx] w fun e w' =>e = .returned (.tuple #[St (AJ l a mx).1,NI (AJ l a mx).2.1,NI (AJ l a mx).2.2])∧Ext w w' :=by
 refine As (args:= [v,NI a,NI mx]) Tryz.func51 rfl 41 rfl (Nat.le_of_ble_eq_true rfl) ?_
 intro j hb
 have c:j 0=(v:Value):=hb.get 0
 have g:j 1=(NI a:Value):=hb.get 1
 have m:j 2=(NI mx:Value):=hb.get 2
 clear hb
 have hE:=Ext.refl w
 refine sk fun K1 i=>(wt (oA rfl (oA rfl (oA rfl (oZ ?_)))))
 rcases hgl:AT 0 (l.drop a)with _ | ⟨n,k⟩
 ·have hR:=GC (mx:=mx) hgl
  refine tN (i _ _ (sk fun K2 o=>(wt (oM rfl (oM rfl (oS rfl (Yk.callA2 Fy c g (((show Calls _ _ _ _ (fun e f=>e = .returned (.tuple #[NI 0,NI 0,NI 6])∧Ext _ f)from by have h:=C1 _ v (l) (hr.keep hE) (a) (by omega) (by omega);rw[hgl]at h;exact h)).mono ?_))))))))
  rintro e w4 ⟨rfl,p⟩
  refine⟨_,rfl,?_⟩
  have hE:=hE.trans p
  refine oM rfl (oS rfl (Yk.extract (vs:= [NI 0,NI 0,NI 6]) (vr (.tuple #[NI 0,NI 0,NI 6]) rfl) (show _=some (NI 0:Value)from rfl) (oS rfl (Yk.extract (vs:= [NI 0,NI 0,NI 6]) (vr (.tuple #[NI 0,NI 0,NI 6]) rfl) (show _=some (NI 0:Value)from rfl) (oS rfl (Yk.extract (vs:= [NI 0,NI 0,NI 6]) (vr (.tuple #[NI 0,NI 0,NI 6]) rfl) (show _=some (NI 6:Value)from rfl) (oA rfl (oA rfl (oA rfl (oZ (tN (o _ _ (sk fun K5 az=>(sk fun K6 q=>(wt (oM rfl (oS rfl (Yk.eqI (a:=(6:Nat)) (b:=(0:Nat)) rfl rfl (BO _ _ _ _) (oZ (tN (q _ _ ?_)))))))))))))))))))))
  refine wpF_true (vr (.bool (true)) (congrArg Value.bool (decide_eq_true (by decide)))) (sk fun K7 r=>(wt (oM rfl (oA rfl (oA rfl (oA rfl (oZ (tN (r _ _ (Am (An (Aj (fn:=Tryz.f51) _ rfl [St (([]:List UInt8)),NI 0,NI 6] (.tuple #[St (([]:List UInt8)),NI 0,NI 6]) rfl ⟨rfl,rfl,rfl,trivial⟩ ?_))))))))))))
  exact⟨by rw[hR],hE⟩
 have hR:=GD (mx:=mx) hgl
 obtain⟨a2,hak,a3⟩:=G2 ha hgl
 by_cases q1:mx<n
 ·rw[if_pos q1]at hR
  refine tN (i _ _ (sk fun K8 s=>(wt (oM rfl (oM rfl (oS rfl (Yk.callA2 Fy c g (((show Calls _ _ _ _ (fun e f=>e = .returned (.tuple #[NI n,NI (a+k),NI 0])∧Ext _ f)from by have h:=C1 _ v (l) (hr.keep hE) (a) (by omega) (by omega);rw[hgl]at h;exact h)).mono ?_))))))))
  rintro e a5 ⟨rfl,t⟩
  refine⟨_,rfl,?_⟩
  have hE:=hE.trans t
  refine oM rfl (oS rfl (Yk.extract (vs:= [NI n,NI (a+k),NI 0]) (vr (.tuple #[NI n,NI (a+k),NI 0]) rfl) (show _=some (NI n:Value)from rfl) (oS rfl (Yk.extract (vs:= [NI n,NI (a+k),NI 0]) (vr (.tuple #[NI n,NI (a+k),NI 0]) rfl) (show _=some (NI (a+k):Value)from rfl) (oS rfl (Yk.extract (vs:= [NI n,NI (a+k),NI 0]) (vr (.tuple #[NI n,NI (a+k),NI 0]) rfl) (show _=some (NI 0:Value)from rfl) (oA rfl (oA rfl (oA rfl (oZ (tN (s _ _ (sk fun a6 u=>(sk fun a7 x=>(wt (oM rfl (oS rfl (Yk.eqI (a:=(0:Nat)) (b:=(0:Nat)) rfl rfl (BO _ _ _ _) (oZ (tN (x _ _ ?_)))))))))))))))))))))
  refine AH (vr (.bool (false)) (congrArg Value.bool (decide_eq_false (by decide)))) (Aq (tN (u _ _ (sk fun a8 a9=>(sk fun ba y=>(wt (oM rfl (oM rfl (oS rfl (Yk.eqI (a:=(n:Nat)) (b:=(mx:Nat)) rfl m (BA _ _ _ _) (oZ (tN (y _ _ (wpF_true (vr (.bool (true)) (congrArg Value.bool (decide_eq_true (q1)))) (sk fun bb z=>(wt (oA rfl (oA rfl ?_))))))))))))))))))
  refine oA rfl (oZ (tN (z _ _ (Am (An (Aj (fn:=Tryz.f51) _ rfl [St (([]:List UInt8)),NI 0,NI 2] (.tuple #[St (([]:List UInt8)),NI 0,NI 2]) rfl ⟨rfl,rfl,rfl,trivial⟩ ?_))))))
  exact⟨by rw[hR],hE⟩
 rw[if_neg q1]at hR
 by_cases q2:l.length-(a+k)<n
 ·rw[if_pos q2]at hR
  refine tN (i _ _ (sk fun bc aa=>(wt (oM rfl (oM rfl (oS rfl (Yk.callA2 Fy c g (((show Calls _ _ _ _ (fun e f=>e = .returned (.tuple #[NI n,NI (a+k),NI 0])∧Ext _ f)from by have h:=C1 _ v (l) (hr.keep hE) (a) (by omega) (by omega);rw[hgl]at h;exact h)).mono ?_))))))))
  rintro e bd ⟨rfl,ab⟩
  refine⟨_,rfl,?_⟩
  have hE:=hE.trans ab
  refine oM rfl (oS rfl (Yk.extract (vs:= [NI n,NI (a+k),NI 0]) (vr (.tuple #[NI n,NI (a+k),NI 0]) rfl) (show _=some (NI n:Value)from rfl) (oS rfl (Yk.extract (vs:= [NI n,NI (a+k),NI 0]) (vr (.tuple #[NI n,NI (a+k),NI 0]) rfl) (show _=some (NI (a+k):Value)from rfl) (oS rfl (Yk.extract (vs:= [NI n,NI (a+k),NI 0]) (vr (.tuple #[NI n,NI (a+k),NI 0]) rfl) (show _=some (NI 0:Value)from rfl) (oA rfl (oA rfl (oA rfl (oZ (tN (aa _ _ (sk fun be ac=>(sk fun bf ad=>(wt (oM rfl (oS rfl (Yk.eqI (a:=(0:Nat)) (b:=(0:Nat)) rfl rfl (BO _ _ _ _) (oZ (tN (ad _ _ ?_)))))))))))))))))))))
  refine AH (vr (.bool (false)) (congrArg Value.bool (decide_eq_false (by decide)))) (Aq (tN (ac _ _ (sk fun bg ae=>(sk fun bh af=>(wt (oM rfl (oM rfl (oS rfl (Yk.eqI (a:=(n:Nat)) (b:=(mx:Nat)) rfl m (BA _ _ _ _) (oZ (tN (af _ _ (AH (vr (.bool (false)) (congrArg Value.bool (decide_eq_false (q1)))) (Aq (tN (ae _ _ (sk fun bi bj=>(sk fun bk ag=> ?_)))))))))))))))))))
  refine wt (oM rfl (oM rfl (oS rfl (Yk.lenRB Ek (RB.of (hr.keep hE) c) (oM rfl (oS rfl (Yk.bin (xv:=NI l.length) (yv:=NI (a+k)) rfl rfl rfl (B5 _ _ _ (by omega) (by omega)) (oS rfl (Yk.eqI (a:=(n:Nat)) (b:=((l.length)-(a+k):Nat)) rfl rfl (BA _ _ _ _) (oZ (tN (ag _ _ (wpF_true (vr (.bool (true)) (congrArg Value.bool (decide_eq_true (q2)))) (sk fun bm ah=>(wt (oA rfl (oA rfl (oA rfl (oZ ?_)))))))))))))))))))
  refine tN (ah _ _ (Am (An (Aj (fn:=Tryz.f51) _ rfl [St (([]:List UInt8)),NI 0,NI 6] (.tuple #[St (([]:List UInt8)),NI 0,NI 6]) rfl ⟨rfl,rfl,rfl,trivial⟩ ?_))))
  exact⟨by rw[hR],hE⟩
 rw[if_neg q2]at hR
 refine tN (i _ _ (sk fun bn ai=>(wt (oM rfl (oM rfl (oS rfl (Yk.callA2 Fy c g (((show Calls _ _ _ _ (fun e f=>e = .returned (.tuple #[NI n,NI (a+k),NI 0])∧Ext _ f)from by have h:=C1 _ v (l) (hr.keep hE) (a) (by omega) (by omega);rw[hgl]at h;exact h)).mono ?_))))))))
 rintro e bo ⟨rfl,aj⟩
 refine⟨_,rfl,?_⟩
 have hE:=hE.trans aj
 refine oM rfl (oS rfl (Yk.extract (vs:= [NI n,NI (a+k),NI 0]) (vr (.tuple #[NI n,NI (a+k),NI 0]) rfl) (show _=some (NI n:Value)from rfl) (oS rfl (Yk.extract (vs:= [NI n,NI (a+k),NI 0]) (vr (.tuple #[NI n,NI (a+k),NI 0]) rfl) (show _=some (NI (a+k):Value)from rfl) (oS rfl (Yk.extract (vs:= [NI n,NI (a+k),NI 0]) (vr (.tuple #[NI n,NI (a+k),NI 0]) rfl) (show _=some (NI 0:Value)from rfl) (oA rfl (oA rfl (oA rfl (oZ (tN (ai _ _ (sk fun bp ak=>(sk fun bq al=>(wt (oM rfl (oS rfl (Yk.eqI (a:=(0:Nat)) (b:=(0:Nat)) rfl rfl (BO _ _ _ _) (oZ (tN (al _ _ ?_)))))))))))))))))))))
 refine AH (vr (.bool (false)) (congrArg Value.bool (decide_eq_false (by decide)))) (Aq (tN (ak _ _ (sk fun br am=>(sk fun bs an=>(wt (oM rfl (oM rfl (oS rfl (Yk.eqI (a:=(n:Nat)) (b:=(mx:Nat)) rfl m (BA _ _ _ _) (oZ (tN (an _ _ (AH (vr (.bool (false)) (congrArg Value.bool (decide_eq_false (q1)))) (Aq (tN (am _ _ (sk fun bt ao=>(sk fun bu ap=> ?_)))))))))))))))))))
 refine wt (oM rfl (oM rfl (oS rfl (Yk.lenRB Ek (RB.of (hr.keep hE) c) (oM rfl (oS rfl (Yk.bin (xv:=NI l.length) (yv:=NI (a+k)) rfl rfl rfl (B5 _ _ _ (by omega) (by omega)) (oS rfl (Yk.eqI (a:=(n:Nat)) (b:=((l.length)-(a+k):Nat)) rfl rfl (BA _ _ _ _) (oZ (tN (ap _ _ (AH (vr (.bool (false)) (congrArg Value.bool (decide_eq_false (q2)))) (Aq (tN (ao _ _ (sk fun bv aq=>(wt (oM rfl (oM rfl ?_))))))))))))))))))))
 refine oM rfl (oM rfl (oS rfl (Yk.bin (xv:=NI (a+k)) (yv:=NI n) rfl rfl rfl (AA _ _ _ (by omega)) (oS rfl (Yk.sliceLH (xs:=l) (l:=a+k) (n:=(a+k)+(n)) Ek MH c (hr.keep hE) (vr (NI (a+k)) rfl) (vr (NI ((a+k)+(n))) rfl) (by omega) (by omega) fun ar au ha38=>(oS rfl (Yk.convRB Ek u5 DT (RB.of au (vr ar rfl)) (oM rfl (oM rfl (oS rfl (Yk.bin (xv:=NI (a+k)) (yv:=NI n) rfl rfl rfl (AA _ _ _ (by omega)) (oA rfl (oA rfl (oA rfl (oZ (tN (aq _ _ (Am (Aj (fn:=Tryz.f51) _ rfl [St ((l.drop (a+k)).take (((a+k)+(n))-(a+k))),NI ((a+k)+(n)),NI 0] (.tuple #[St ((l.drop (a+k)).take (((a+k)+(n))-(a+k))),NI ((a+k)+(n)),NI 0]) rfl ⟨rfl,rfl,rfl,trivial⟩ ?_)))))))))))))))))))
 exact⟨by rw[hR,←Kn l (a+k) n],hE⟩

theorem Fi(w:World)(v:Value)(l:Bs)(hr:RB w v l)(a:Nat)(ha:a<4611686018427387904)(hl:l.length≤1073741824):
  Calls Tryz.prog 52 #[v,NI a] w fun e w' =>e = .returned (.tuple #[AB (AS l a).1,NI (AS l a).2.1,NI (AS l a).2.2])∧Ext w w' :=by
 refine As (args:= [v,NI a]) Tryz.func52 rfl 39 rfl (Nat.le_of_ble_eq_true rfl) ?_
 intro aa hb
 have g:aa 0=(v:Value):=hb.get 0
 have f:aa 1=(NI a:Value):=hb.get 1
 clear hb
 have hE:=Ext.refl w
 refine sk fun K1 ak=>(wt (oS rfl (Yk.alloc (cs:=(Lib.byteCells (List.replicate 32 0)).toArray) H9 fun n u be ab al bf=> ?_)))
 have hE:=hE.trans al
 have c:=ab;clear ab
 have bg:n<u.heap.size:=by omega
 refine oA rfl (oA rfl (oZ (tN (ak _ _ (sk fun bh x=>(wt (oS rfl (Yk.alloc (cs:=(Lib.byteCells (List.replicate 32 0)).toArray) H9 fun k am an ac y bi=> ?_))))))))
 have h:=Ext.refl u
 have ao:=hE.size
 have bj:=Bc (bl c) an
 have hE:=hE.trans y
 have c:=eb y c
 have h:=h.trans y
 have m:=ac;clear ac
 have bk:k<am.heap.size:=by omega
 refine oZ ?_
 by_cases q1:l.length<a
 ·have hR:AS l a=_:=if_pos q1
  refine tN (x _ _ (sk fun bm bn=>(sk fun bo ap=>(wt (oM rfl (oS rfl (Yk.eqI (a:=(a:Nat)) (b:=(0:Nat)) f rfl (AX _ _ _ _) (oM rfl (oY (d:=11) rfl rfl (vr (.bool (false)) (congrArg Value.bool (decide_eq_false (by omega)))) (Yk.move f (oY (d:=11) rfl rfl (vr (.bool (false)) (congrArg Value.bool (decide_eq_false (by omega)))) (Yk.move g (oY (d:=11) rfl rfl (vr (.bool (false)) (congrArg Value.bool (decide_eq_false (by omega)))) (Yk.lenRB Ek (RB.of (hr.keep hE) (vr v rfl)) (oY (d:=11) rfl rfl (vr (.bool (false)) (congrArg Value.bool (decide_eq_false (by omega)))) (Yk.eqI (a:=(a:Nat)) (b:=(l.length:Nat)) rfl rfl (BA _ _ _ _) (oS rfl (Yk.pickF (vr (.bool (false)) (congrArg Value.bool (decide_eq_false (by omega)))) (vr (.bool (true)) (congrArg Value.bool (decide_eq_true (q1)))) (oZ (tN (ap _ _ (wpF_true (vr (.bool (true)) rfl) (sk fun bp aq=> ?_)))))))))))))))))))))))
  refine wt (oS rfl (Yk.loadAll (vr (PQ k 0) rfl) m P8 rfl (by exact At List.length_replicate) (oS rfl (Yk.storeAll (vr (PQ n 0) rfl) (vr (AB (List.replicate 32 0)) rfl) c (by exact BK List.length_replicate List.length_replicate) (by exact At List.length_replicate) (Ay _) fun bq ad ae br=> ?_))))
  have hE:=Af hE ae (Nat.le_trans (Nat.le_refl _) (by omega))
  clear h
  have m:=kb ae m (by omega)
  clear c
  have c:=ad;clear ad
  have bs:=bl c
  refine oA rfl (oA rfl (oZ (tN (aq _ _ (Am (An (Aj (fn:=Tryz.f52) _ rfl [AB (List.replicate 32 0),NI 0,NI 1] (.tuple #[AB (List.replicate 32 0),NI 0,NI 1]) rfl ⟨ResF.row rfl c P8 rfl (by first | exact At hXl | exact At List.length_replicate),rfl,rfl,trivial⟩ ?_)))))))
  rw[hR]
  exact⟨rfl,hE⟩
 by_cases q2:l.length-a<32
 ·have hR:AS l a=_:=(if_neg q1).trans (if_pos q2)
  refine tN (x _ _ (sk fun bt ar=>(sk fun bu au=>(wt (oM rfl (oS rfl (Yk.eqI (a:=(a:Nat)) (b:=(0:Nat)) f rfl (AX _ _ _ _) (oM rfl (oY (d:=11) rfl rfl (vr (.bool (false)) (congrArg Value.bool (decide_eq_false (by omega)))) (Yk.move f (oY (d:=11) rfl rfl (vr (.bool (false)) (congrArg Value.bool (decide_eq_false (by omega)))) (Yk.move g (oY (d:=11) rfl rfl (vr (.bool (false)) (congrArg Value.bool (decide_eq_false (by omega)))) (Yk.lenRB Ek (RB.of (hr.keep hE) (vr v rfl)) (oY (d:=11) rfl rfl (vr (.bool (false)) (congrArg Value.bool (decide_eq_false (by omega)))) (Yk.eqI (a:=(a:Nat)) (b:=(l.length:Nat)) rfl rfl (BA _ _ _ _) (oS rfl (Yk.pickF (vr (.bool (false)) (congrArg Value.bool (decide_eq_false (by omega)))) (vr (.bool (false)) (congrArg Value.bool (decide_eq_false (q1)))) (oZ (tN (au _ _ (AH (vr (.bool (false)) rfl) (Aq ?_)))))))))))))))))))))))
  refine tN (ar _ _ (sk fun bv bw=>(sk fun bx av=>(wt (oM rfl (oS rfl (Yk.lenRB Ek (RB.of (hr.keep hE) g) (oM rfl (oS rfl (Yk.bin (xv:=NI l.length) (yv:=NI a) rfl f rfl (B5 _ _ _ (by omega) (by omega)) (oS rfl (Yk.eqI (a:=((l.length)-(a):Nat)) (b:=(32:Nat)) rfl rfl (AX _ _ _ _) (oZ (tN (av _ _ (wpF_true (vr (.bool (true)) (congrArg Value.bool (decide_eq_true (q2)))) (sk fun bz aw=>(wt (oS rfl (Yk.loadAll (vr (PQ k 0) rfl) m P8 rfl (by exact At List.length_replicate) (oS rfl (Yk.storeAll (vr (PQ n 0) rfl) (vr (AB (List.replicate 32 0)) rfl) c (by exact BK List.length_replicate List.length_replicate) (by exact At List.length_replicate) (Ay _) fun b0 af ag b1=> ?_))))))))))))))))))))))
  have hE:=Af hE ag (Nat.le_trans (Nat.le_refl _) (by omega))
  clear h
  have m:=kb ag m (by omega)
  clear c
  have c:=af;clear af
  have b2:=bl c
  refine oA rfl (oA rfl (oZ (tN (aw _ _ (Am (An (Aj (fn:=Tryz.f52) _ rfl [AB (List.replicate 32 0),NI 0,NI 6] (.tuple #[AB (List.replicate 32 0),NI 0,NI 6]) rfl ⟨ResF.row rfl c P8 rfl (by first | exact At hXl | exact At List.length_replicate),rfl,rfl,trivial⟩ ?_)))))))
  rw[hR]
  exact⟨rfl,hE⟩
 have hR:AS l a=_:=(if_neg q1).trans (if_neg q2)
 refine tN (x _ _ (sk fun b3 ax=>(sk fun b4 ay=>(wt (oM rfl (oS rfl (Yk.eqI (a:=(a:Nat)) (b:=(0:Nat)) f rfl (AX _ _ _ _) (oM rfl (oY (d:=11) rfl rfl (vr (.bool (false)) (congrArg Value.bool (decide_eq_false (by omega)))) (Yk.move f (oY (d:=11) rfl rfl (vr (.bool (false)) (congrArg Value.bool (decide_eq_false (by omega)))) (Yk.move g (oY (d:=11) rfl rfl (vr (.bool (false)) (congrArg Value.bool (decide_eq_false (by omega)))) (Yk.lenRB Ek (RB.of (hr.keep hE) (vr v rfl)) (oY (d:=11) rfl rfl (vr (.bool (false)) (congrArg Value.bool (decide_eq_false (by omega)))) (Yk.eqI (a:=(a:Nat)) (b:=(l.length:Nat)) rfl rfl (BA _ _ _ _) (oS rfl (Yk.pickF (vr (.bool (false)) (congrArg Value.bool (decide_eq_false (by omega)))) (vr (.bool (false)) (congrArg Value.bool (decide_eq_false (q1)))) (oZ (tN (ay _ _ (AH (vr (.bool (false)) rfl) (Aq ?_)))))))))))))))))))))))
 refine tN (ax _ _ (sk fun b5 az=>(sk fun b6 a0=>(wt (oM rfl (oS rfl (Yk.lenRB Ek (RB.of (hr.keep hE) g) (oM rfl (oS rfl (Yk.bin (xv:=NI l.length) (yv:=NI a) rfl f rfl (B5 _ _ _ (by omega) (by omega)) (oS rfl (Yk.eqI (a:=((l.length)-(a):Nat)) (b:=(32:Nat)) rfl rfl (AX _ _ _ _) (oZ (tN (a0 _ _ (AH (vr (.bool (false)) (congrArg Value.bool (decide_eq_false (q2)))) (Aq (tN (az _ _ (sk fun b7 a1=>(sk fun b8 a2=> ?_)))))))))))))))))))))
 refine wt (oA rfl (A3 [(0,v),(1,NI a),(4,PQ n 0),(5,NI 0),(6,NI 0),(7,PQ k 0),(8,NI 0),(16, .bool (false)),(22, .bool (false))] ⟨g,f,rfl,rfl,rfl,rfl,rfl,rfl,(congrArg Value.bool (decide_eq_false (q2))),trivial⟩ fun b9 ⟨g,f,o,q,r,p,j,s,t,_⟩=>(tN (a2 _ _ (Av (A4 (fun(ρ:Au) (wz:World)=>∃i:Nat,ρ 0=(v:Value)∧ρ 1=(NI a:Value)∧ρ 4=(PQ n 0:Value)∧ρ 5=(NI 0:Value)∧ρ 6=(NI 0:Value)∧ρ 7=(PQ k 0:Value)∧ρ 16=(.bool (false):Value)∧ρ 22=(.bool (false):Value)∧ρ 8=(NI i:Value)∧Ext w wz∧wz.heap[n]? =some (.cells (Lib.byteCells (List.replicate 32 0)).toArray 24 (0,0))∧Ext u wz∧wz.heap[k]? =some (.cells (Lib.byteCells (ID l a i)).toArray 24 (0,0))∧(i≤32)∧True) (fun ρ _=>32-(intOf (ρ 8)).toNat) ⟨0,g,f,o,q,r,p,s,t,j,hE,c,h,AG m (congrArg Lib.byteCells (by unfold ID;simp)),Nat.zero_le _,trivial⟩ ?_))))))
 clear m
 clear hE c h
 rintro a3 a4 ⟨i,g,f,o,q,r,p,s,t,j,hE,c,h,hb21l,hi,-⟩
 have q8:=j
 by_cases hlt:i<32
 ·have hil:=Qu (l:=l) (a:=a) hi (by omega)
  refine sk fun ca a5=>(sk fun cb a6=>(wt (oM rfl (oS rfl (Yk.eqI (a:=(i:Nat)) (b:=(32:Nat)) j rfl (AX _ _ _ _) (oZ (tN (a6 _ _ (wpF_true (vr (.bool (true)) (congrArg Value.bool (decide_eq_true (hlt)))) (Aq (tN (a5 _ _ (sk fun cc a7=>(Av (wt (oM rfl (oM rfl (oM rfl ?_))))))))))))))))))
  refine oM rfl (oS rfl (Yk.bin (xv:=NI a) (yv:=NI i) f j rfl (AA _ _ _ (by omega)) (oS rfl (Yk.atRB (l:=l) (i:=(a)+(i)) Ek MH (RB.of (hr.keep hE) g) (vr (NI ((a)+(i))) rfl) (by omega) fun a8 ah=>(oS rfl (Yk.loadC u5 rfl (PCell.of ah (vr a8 rfl)) (oS rfl (Yk.atArr0 (i:=i) P8 MH p j (by omega) (oS rfl (Yk.storeB8 (i:=i) (v:=l.getD ((a)+(i)) 0) (vr (PQ k i) rfl) (vr (B8 (l.getD ((a)+(i)) 0)) rfl) hb21l (by rw[hil];omega) Q0 fun cd ai z ce=> ?_))))))))))
  have hE:=Af hE z (Nat.le_trans ao (by omega))
  have c:=kb z c (by omega)
  have h:=Af h z (Nat.le_trans (Nat.le_refl _) (by omega))
  clear ah
  clear hb21l
  have hb21l:=ai;clear ai
  have cf:=bl hb21l
  refine oZ (bN (tN (a7 _ _ (wt (oM rfl (oS rfl (Yk.bin (xv:=NI i) (yv:=NI 1) j rfl rfl (AA _ _ _ (by omega)) (oA rfl (A3 [(0,v),(1,NI a),(4,PQ n 0),(5,NI 0),(6,NI 0),(7,PQ k 0),(8,NI ((i)+(1))),(16, .bool (false)),(22, .bool (false)),(25, .bool (true))] ⟨g,f,o,q,r,p,rfl,s,t,(congrArg Value.bool (decide_eq_true (hlt))),trivial⟩ fun a9 ⟨g,f,o,q,r,p,j,s,t,cg,_⟩=>(tN (And.intro ⟨i+1,g,f,o,q,r,p,s,t,j,hE,c,h,AG hb21l (congrArg Lib.byteCells (Px hlt (by omega))),by omega,trivial⟩ ?_)))))))))))
  show 32-(intOf (a9 8)).toNat<32-(intOf (a3 8)).toNat
  rw[j,q8]
  simp only[intOf,Int.toNat_natCast];omega
 have hi32:i=32:=by omega
 obtain⟨X,hX⟩:∃X,X=(l.drop a).take 32:=⟨_,rfl⟩
 have hXl:X.length=32:=by rw[hX,List.length_take,List.length_drop];omega
 have hb21l:a4.heap[k]? =some (.cells (Lib.byteCells X).toArray 24 (0,0)):=AG hb21l (congrArg Lib.byteCells (by rw[hi32,Qv,hX]))
 refine sk fun ch ci=>(sk fun cj ba=>(wt (oM rfl (oS rfl (Yk.eqI (a:=(i:Nat)) (b:=(32:Nat)) j rfl (AX _ _ _ _) (oZ (tN (ba _ _ (AH (vr (.bool (false)) (congrArg Value.bool (decide_eq_false (hlt)))) (AP (Ar (Ar (Az (tN (a1 _ _ (sk fun ck bb=>(wt (oS rfl (Yk.loadAll p hb21l P8 rfl (by exact At hXl) (oM rfl (oS rfl (Yk.bin (xv:=NI a) (yv:=NI 32) f rfl rfl (AA _ _ _ (by omega)) (oS rfl (Yk.storeAll o (vr (AB X) rfl) c (by exact BK hXl List.length_replicate) (by exact At hXl) (Ay _) fun cl aj bc cm=> ?_))))))))))))))))))))))))
 have hE:=Af hE bc (Nat.le_trans (Nat.le_refl _) (by omega))
 clear h
 clear c
 have c:=aj;clear aj
 have cn:=bl c
 refine oA rfl (oA rfl (oZ (tN (bb _ _ (Am (Aj (fn:=Tryz.f52) _ rfl [AB X,NI ((a)+(32)),NI 0] (.tuple #[AB X,NI ((a)+(32)),NI 0]) rfl ⟨ResF.row o c P8 rfl (by first | exact At hXl | exact At List.length_replicate),rfl,rfl,trivial⟩ ?_))))))
 rw[hR,←hX]
 exact⟨rfl,hE⟩

open Go.RowKit
def SB(g k lo n c:Nat)(v:Value):Prop:=∃o,v = .slice (some ⟨g,o,none⟩) n c∧(0<c→o=lo*k)
def MO(w:World)(v:Value)(n c:Nat)(news:List Value):Prop:=∃a,v = .slice (some a) n c∧∀j u,news[j]? =some u→w.cell? (a.add j)=some u
theorem SB.src{w:World}{g k lo n c:Nat}{v:Value}{C:List Value}{T:TypeId}{fr:Nat × Nat}(h:SB g k lo n c v)(m:Nat)(hc:0<c∨m=0)(hC:w.heap[g]? =some (.cells C.toArray T fr)){D:List Value}(hD:(C.drop (lo*k)).take m=D):MO w v n c D:=by
  obtain⟨o,rfl,ho⟩:=h
  subst hD
  refine⟨_,rfl,fun j u hu=> ?_⟩
  rcases hc with hc | rfl
  · obtain rfl:=ho hc
    rw[Addr.add_lit]
    rw[List.getElem?_take]at hu
    split at hu
    · rw[List.getElem?_drop]at hu
      exact Al hC hu
    · cases hu
  · simp at hu
theorem SB.of{g k lo n c:Nat}{v x:Value}(h:SB g k lo n c v)(e:x=v):SB g k lo n c x:=by rw[e];exact h
theorem SB.first(g k n c:Nat):SB g k 0 n c (.slice (some ⟨g,0,none⟩) n c):=⟨0,rfl,fun _=>(Nat.zero_mul _).symm⟩
theorem SB.eq{g k lo lo' n n' c c' :Nat}{v:Value}(h:SB g k lo n c v)(a:lo=lo')(b:n=n')(e:c=c'):SB g k lo' n' c' v:=by subst a b e;exact h
theorem Py{P:Program}{e:TypeId}{k b:Nat}(h:(P.info? e).map (fun i=>(i.size,i.bytes,i.zero.map fun z=>(z.cells.size,z.cells.toList.all fun u=>u.oneCell')))=some (k,b,some (k,true))):∃i z,P.info? e=some i∧i.size=k∧i.bytes=b∧i.zero=some z∧z.cells.size=k∧∀u∈z.cells.toList,u.oneCell' =true:=by
  cases hi:P.info? e with
  | none=>rw[hi]at h;cases h
  | some i=>
    rw[hi]at h
    simp only[Option.map_some,Option.some.injEq,Prod.mk.injEq]at h
    obtain⟨h1,h2,h3⟩:=h
    cases hz:i.zero with
    | none=>rw[hz]at h3;cases h3
    | some z=>
      rw[hz]at h3
      simp only[Option.map_some,Option.some.injEq,Prod.mk.injEq,List.all_eq_true]at h3
      exact⟨i,z,rfl,h1,h2,hz,h3.1,h3.2⟩
theorem Ko{z:Value}(h:∀u∈z.cells.toList,u.oneCell' =true)(n:Nat):∀u∈(Builtin.zeroCells z.cells n).toList,u.oneCell' =true:=by
  intro u hu
  simp only[Builtin.zeroCells,Array.mem_toList_iff,Array.mem_map,Array.mem_range]at hu
  obtain⟨i,hi,rfl⟩:=hu
  have h0:0<z.cells.size:=by
    rcases Nat.eq_zero_or_pos z.cells.size with e | e
    · rw[e]at hi;omega
    · exact e
  have hl:=Nat.mod_lt i h0
  rw[getElem!_pos z.cells _ hl]
  exact h _ (Array.getElem_mem_toList hl)
theorem Fj{w:World}{g:Nat}{C:Array Value}:w.grownBy (w.setRow g C) (some g):=⟨rfl,rfl,rfl,by simp,fun k _ hk=>setRow_other w g k _ (fun e=>hk (by rw[e]))⟩
section
variable {P : Program} {K : Value → World → Prop} {ρ : Au} {w : World} {d : Option Tmp} {ty : TypeId} {pos : String} {af : Array Edge} {gd : Option (Nat × Bool)}
variable {g k lo n c : Nat} {s x : Operand}
theorem Yk.sliceSB{t e:TypeId}(ht:P.underlying t=some (.slice e))(he:∀w' :World,(sizeOf e).run P w' = .ok k w'){a b:Option Operand}(h:SB g k lo n c (Ag ρ x))(l r:Nat) 
    (ha:a.map (Ag ρ)=none∧l=0∨∃q,a.map (Ag ρ)=some (.int q (l:Int))) (hb:b.map (Ag ρ)=none∧r=n∨∃q,b.map (Ag ρ)=some (.int q (r:Int))) (h1:l≤r) (h2:r≤c)
    (hk:∀v,SB g k (lo+l) (r-l) (c-l) v→K v w):Yk P K ((execOp (Ag ρ) ⟨d, .slice t x a b none,ty,pos,af,gd⟩).run P w):=by
  obtain⟨o,hx,ho⟩:=h
  have hE:P.elem t=e:=by simp[Program.elem,ht]
  have ht' :P.underlying t=some (.slice (P.elem t)):=by rw[hE];exact ht
  refine Yk.value (v:=sliced (some ⟨g,o,none⟩) l r c k) (w' :=w) ?_ (hk _ ?_)
  · unfold execOp
    have h1' :(l:Int)≤(r:Int):=by omega
    have h2' :(r:Int)≤(c:Int):=by omega
    have hr:(Instr.sliceAt t (.slice (some ⟨g,o,none⟩) n c) (a.map (Ag ρ)) (b.map (Ag ρ)) none).run P w = .ok (sliced (some ⟨g,o,none⟩) l r c k) w:=by
      rw[run_sliceAt_slice (P:=P) w t _ _ _ _ ht']
      rcases ha with ⟨f,rfl⟩ | ⟨q,f⟩ <;> rcases hb with ⟨i,rfl⟩ | ⟨q',i⟩ <;> rw[f,i]
      · rw[run_slice_all (P:=P) w t _ _ _ ht',hE,he];rfl
      · rw[run_slice_h (P:=P) w t _ _ _ ht' q' r (by omega) h2',hE,he];rfl
      · rw[run_slice_l (P:=P) w t _ _ _ ht' q l (by omega) h1',hE,he];rfl
      · rw[run_slice_lh (P:=P) w t _ _ _ ht' q q' l r (by omega) h1' h2',hE,he];rfl
    simp only[hx,Option.map_none,hr,Sem.run_bind,Sem.run_pure,Result.andThen_ok]
  · refine⟨if c=l then o else o+l*k,?_,fun h=> ?_⟩
    · unfold sliced
      split <;> simp[Addr.add_lit]
    · rw[if_neg (by omega),ho (by omega),Nat.add_mul]
theorem Yk.sliceSB3{t e:TypeId}(ht:P.underlying t=some (.slice e))(he:∀w' :World,(sizeOf e).run P w' = .ok k w'){a b y:Operand}(h:SB g k lo n c (Ag ρ x)){l r m:Nat}{q1 q2 q3:IntKind} 
    (ha:Ag ρ a = .int q1 (l:Int)) (hb:Ag ρ b = .int q2 (r:Int)) (hm:Ag ρ y = .int q3 (m:Int)) (h1:l≤r) (h2:r≤m) (h3:m≤c)
    (hk:∀v,SB g k (lo+l) (r-l) (m-l) v→K v w):Yk P K ((execOp (Ag ρ) ⟨d, .slice t x (some a) (some b) (some y),ty,pos,af,gd⟩).run P w):=by
  obtain⟨o,hx,ho⟩:=h
  have hE:P.elem t=e:=by simp[Program.elem,ht]
  have ht' :P.underlying t=some (.slice (P.elem t)):=by rw[hE];exact ht
  refine Yk.value (v:=sliced (some ⟨g,o,none⟩) l r m k) (w' :=w) ?_ (hk _ ?_)
  · unfold execOp
    have hr:(Instr.sliceAt t (.slice (some ⟨g,o,none⟩) n c) (some (.int q1 (l:Int))) (some (.int q2 (r:Int))) (some (.int q3 (m:Int)))).run P w = .ok (sliced (some ⟨g,o,none⟩) l r m k) w:=by
      rw[run_sliceAt_slice (P:=P) w t _ _ _ _ ht',run_slice_lhm (P:=P) w t _ _ _ ht' q1 q2 q3 l r m (by omega) (by omega) (by omega) (by omega),hE,he]
      rfl
    simp only[hx,ha,hb,hm,Option.map_some,hr,Sem.run_bind,Sem.run_pure,Result.andThen_ok]
  · refine⟨if m=l then o else o+l*k,?_,fun h=> ?_⟩
    · unfold sliced
      split <;> simp[Addr.add_lit]
    · rw[if_neg (by omega),ho (by omega),Nat.add_mul]
theorem Yk.lenSB{t e:TypeId}(ht:P.underlying t=some (.slice e))(h:SB g k lo n c (Ag ρ x))(hk:K (NI n) w):Yk P K ((execOp (Ag ρ) ⟨d, .call ⟨.builtin .len,#[x],#[t]⟩,ty,pos,af,gd⟩).run P w):=by
  obtain⟨o,hx,-⟩:=h
  exact Yk.lenSl ht hx hk
theorem Yk.capSB{t e:TypeId}(ht:P.underlying t=some (.slice e))(h:SB g k lo n c (Ag ρ x))(hk:K (NI c) w):Yk P K ((execOp (Ag ρ) ⟨d, .call ⟨.builtin .cap,#[x],#[t]⟩,ty,pos,af,gd⟩).run P w):=by
  obtain⟨o,hx,-⟩:=h
  have hE:P.elem t=e:=by simp[Program.elem,ht]
  refine Yk.value (v:=NI c) (w' :=w) ?_ hk
  have hr:=run_cap_slice (P:=P) w t ty (some ⟨g,o,none⟩) n c (by rw[hE];exact ht)
  unfold execOp
  simp only[resolve,invoke,builtin,hx,List.map_toArray,List.map_cons,List.map_nil,Sem.run_bind,hr,Result.andThen_ok,Sem.run_pure]
  rfl
theorem Yk.copySB{dT sT e T:TypeId}(ht:P.underlying dT=some (.slice e))(he:∀w' :World,(sizeOf e).run P w' = .ok k w')(hd:SB g k lo n c (Ag ρ s))(hc:0<c){C:List Value}(hC:w.heap[g]? =some (.cells C.toArray T (0,0))) 
    {b c2:Nat} (m:Nat) {news:List Value} (hs:MO w (Ag ρ x) b c2 news) (hm:Nat.min b n=m) (hl:news.length=m*k) (h1:∀u∈news,u.oneCell' =true) (hfit:lo*k+m*k≤C.length)
    (hk:∀w',w'.heap[g]? =some (.cells (C.take (lo*k)++news++C.drop (lo*k+m*k)).toArray T (0,0))→w.grownBy w' (some g)→w'.heap.size=w.heap.size→K (NI m) w'):
    Yk P K ((execOp (Ag ρ) ⟨d, .call ⟨.builtin .copy,#[s,x],#[dT,sT]⟩,ty,pos,af,gd⟩).run P w):=by
  obtain⟨o,hx,ho⟩:=hd
  obtain rfl:=ho hc
  obtain⟨a,hy,hn⟩:=hs
  have hst:=run_storeCells_at P g (lo*k) T news 0 C.toArray w hC (by simp only[List.size_toArray];omega) h1
  simp only[Nat.add_zero,hl]at hst
  have hf:=run_firstCells_some (P:=P) w k m a b c2 news hl hn
  refine Yk.value (v:=NI m) (w' :=w.setRow g (C.take (lo*k)++news++C.drop (lo*k+m*k)).toArray) ?_ (hk _ (setRow_heap w g C.toArray _ T (0,0) hC) Fj (by simp))
  unfold execOp
  have hr:(Builtin.copy_ #[dT,sT] ty #[.slice (some ⟨g,lo*k,none⟩) n c, .slice (some a) b c2]).run P w = .ok (NI m) (w.setRow g (C.take (lo*k)++news++C.drop (lo*k+m*k)).toArray):=by
    simp only[Builtin.copy_,List.getElem?_toArray,List.getElem?_cons_zero,List.getElem?_cons_succ,Sem.run_bind,run_underlying ht,Result.andThen_ok,he,Builtin.lenOf,Sem.run_pure,hm,hf,hst]
    rfl
  simp only[resolve,invoke,builtin,hx,hy,List.map_toArray,List.map_cons,List.map_nil,Sem.run_bind,hr,Result.andThen_ok,Sem.run_pure]
theorem Yk.appendSB{t e:TypeId}{i:TypeInfo}(ht:P.underlying t=some (.slice e))(hi:P.info? e=some i)(hik:i.size=k)(hd:SB g k 0 n c (Ag ρ s))(hc:0<c){C:List Value}(hC:w.heap[g]? =some (.cells C.toArray e (0,0))) 
    {m c2:Nat} {news:List Value} (hs:MO w (Ag ρ x) m c2 news) (hl:news.length=m*k) (h1:∀u∈news,u.oneCell' =true) (hroom:n+m≤c) (hfit:(n+m)*k≤C.length)
    (hk:∀w',w'.heap[g]? =some (.cells (C.take (n*k)++news++C.drop (n*k+m*k)).toArray e (0,0))→w.grownBy w' (some g)→w'.heap.size=w.heap.size→K (.slice (some ⟨g,0,none⟩) (n+m) c) w'):
    Yk P K ((execOp (Ag ρ) ⟨d, .call ⟨.builtin .append,#[s,x],#[t,t]⟩,ty,pos,af,gd⟩).run P w):=by
  obtain⟨o,hx,ho⟩:=hd
  obtain rfl:o=0:=by rw[ho hc,Nat.zero_mul]
  obtain⟨a,hy,hn⟩:=hs
  subst hik
  have hr:=run_append_room (P:=P) w t ty e i ht hi g n c C.toArray hC a m c2 news hl hn h1 hroom (by rw[hl,List.size_toArray,←Nat.add_mul];exact hfit)
  simp only[hl]at hr
  refine Yk.value (v:= .slice (some ⟨g,0,none⟩) (n+m) c) (w' :=w.setRow g (C.take (n*i.size)++news++C.drop (n*i.size+m*i.size)).toArray) ?_ (hk _ (setRow_heap w g C.toArray _ e (0,0) hC) Fj (by simp))
  unfold execOp
  simp only[resolve,invoke,builtin,hx,hy,List.map_toArray,List.map_cons,List.map_nil,Sem.run_bind,hr,Result.andThen_ok,Sem.run_pure]
theorem Yk.clearSB{t e T:TypeId}{i:TypeInfo}{z:Value}(ht:P.underlying t=some (.slice e))(hi:P.info? e=some i)(hz:i.zero=some z)(hzs:z.cells.size=k)(hd:SB g k lo n c (Ag ρ s))(hc:0<c)(hn:0<n){C:List Value}(hC:w.heap[g]? =some (.cells C.toArray T (0,0))) 
    (h1:∀u∈(Builtin.zeroCells z.cells n).toList,u.oneCell' =true) (hfit:lo*k+n*k≤C.length)
    (hk:∀w' Z,Z.length=n*k→w'.heap[g]? =some (.cells (C.take (lo*k)++Z++C.drop (lo*k+n*k)).toArray T (0,0))→w.grownBy w' (some g)→w'.heap.size=w.heap.size→K (.tuple #[]) w'):
    Yk P K ((execOp (Ag ρ) ⟨d, .call ⟨.builtin .clear,#[s],#[t]⟩,ty,pos,af,gd⟩).run P w):=by
  obtain⟨o,hx,ho⟩:=hd
  obtain rfl:=ho hc
  have hZ:(Builtin.zeroCells z.cells n).toList.length=n*k:=by rw[Array.length_toList,size_zeroCells,hzs]
  have hst:=run_storeCells_at P g (lo*k) T (Builtin.zeroCells z.cells n).toList 0 C.toArray w hC (by rw[hZ];simp only[List.size_toArray];omega) h1
  simp only[Nat.add_zero,hZ]at hst
  obtain⟨m,rfl⟩:∃m,n=m+1:=⟨n-1,by omega⟩
  have hr:(Builtin.clear_ #[t] ty #[.slice (some ⟨g,lo*k,none⟩) (m+1) c]).run P w = .ok (.tuple #[]) (w.setRow g (C.take (lo*k)++(Builtin.zeroCells z.cells (m+1)).toList++C.drop (lo*k+(m+1)*k)).toArray):=by
    simp[Builtin.clear_,run_underlying ht,zeroValue,typeInfo,hi,hz,hst]
  refine Yk.value (v:= .tuple #[]) (w' :=_) ?_ (hk _ _ hZ (setRow_heap w g C.toArray _ T (0,0) hC) Fj (by simp))
  unfold execOp
  simp only[resolve,invoke,builtin,hx,List.map_toArray,List.map_cons,List.map_nil,Sem.run_bind,hr,Result.andThen_ok,Sem.run_pure]
theorem Yk.appendMakeSB{t tn e T:TypeId}{kn kq:IntKind}{i:TypeInfo}{z:Value}(ht:P.underlying t=some (.slice e))(htn:P.underlying tn=some (.int kn))(hi:P.info? e=some i)(hz:i.zero=some z)(hik:i.size=k)(hzs:z.cells.size=k)(a:0<k)(hd:SB g k 0 n c (Ag ρ s))(hc:0<c){C:List Value}(hC:w.heap[g]? =some (.cells C.toArray T (0,0))) 
    {m:Nat} (hy:Ag ρ x = .int kq (m:Int)) (hm:0<m) (hroom:c<n+m) (hfit:n*k≤C.length) (hb:(n+m)*i.bytes≤140737488355328) (h63:n+m≤maxLen)
    (hk:∀b w' cap Z,w.heap.size=b→cap≤maxLen→n+m≤cap→Z.length=cap*k-n*k→w'.heap[b]? =some (.cells (C.take (n*k)++Z).toArray e (0,0))→Ext w w' →w'.heap.size=w.heap.size+1→K (.slice (some ⟨b,0,none⟩) (n+m) cap) w'):
    Yk P K ((execOp (Ag ρ) ⟨d, .call ⟨.builtin .append,#[s,x],#[t,tn]⟩,ty,pos,af,gd⟩).run P w):=by
  obtain⟨o,hx,ho⟩:=hd
  obtain rfl:o=0:=by rw[ho hc,Nat.zero_mul]
  subst hik
  have holds:∀j u,(C.take (n*i.size))[j]? =some u→w.drew.cell? ((⟨g,0,none⟩:Addr).add j)=some u:=fun j u hu=>by
    rw[List.getElem?_take]at hu
    split at hu
    · rw[Addr.add_lit,Nat.zero_add];exact Al (w:=w.drew) hC hu
    · cases hu
  have hl:(C.take (n*i.size)).length=n*i.size:=by rw[List.length_take];omega
  have hr:=Lib.run_append_grow_zeros (P:=P) w t tn ty e i z kq kn ht htn hi hz (some ⟨g,0,none⟩) n c (C.take (n*i.size)) (run_firstCells_some w.drew i.size n ⟨g,0,none⟩ n c _ hl holds) m hm a hroom (by have:=h63;simp only[maxLen]at this;omega)
    (Nat.le_trans (Nat.mul_le_mul_right _ (Nat.le_add_left m n)) (Nat.le_trans hb (by decide))) (growslice_fits hroom hb)
  have hge:=grownCap_ge w (n+m) c e
  have hcm:=grownCap_le_maxLen w (n+m) c e h63
  refine Yk.value (v:= .slice (some ⟨w.heap.size,0,none⟩) (n+m) (grownCap w (n+m) c e)) (w' :=w.drew.alloc (.cells ((C.take (n*i.size)).toArray++Builtin.zeroCells z.cells m++Builtin.zeroCells z.cells (grownCap w (n+m) c e-(n+m))) e)) ?_
    (hk w.heap.size _ _ ((Builtin.zeroCells z.cells m).toList++(Builtin.zeroCells z.cells (grownCap w (n+m) c e-(n+m))).toList) rfl hcm hge ?_ ?_ (Ext.of ⟨rfl,rfl,rfl,by simp,fun k hk _=>heap_alloc_old w.drew _ hk⟩) (by simp))
  · unfold execOp
    simp only[resolve,invoke,builtin,hx,hy,List.map_toArray,List.map_cons,List.map_nil,Sem.run_bind,hr,Result.andThen_ok,Sem.run_pure]
  · rw[List.length_append,Array.length_toList,Array.length_toList,size_zeroCells,size_zeroCells,hzs,←Nat.add_mul,←Nat.sub_mul]
    congr 1
    omega
  · have:=heap_alloc_new w.drew (.cells ((C.take (n*i.size)).toArray++Builtin.zeroCells z.cells m++Builtin.zeroCells z.cells (grownCap w (n+m) c e-(n+m))) e)
    rw[show(C.take (n*i.size)++((Builtin.zeroCells z.cells m).toList++(Builtin.zeroCells z.cells (grownCap w (n+m) c e-(n+m))).toList)).toArray=(C.take (n*i.size)).toArray++Builtin.zeroCells z.cells m++Builtin.zeroCells z.cells (grownCap w (n+m) c e-(n+m))from by
      apply Array.toList_inj.1
      simp]
    exact this
end
theorem Je{P:Program}{w:World}{tS tR e:TypeId}(ht:P.underlying tS=some (.slice e)){k:Nat}(hz:∀w,(Go.sizeOf e).run P w = .ok k w){a b:Nat}{v x:Value}{lo' n' c' lo n c:Nat}(hv:SB a k lo' n' c' v)(hx:SB b k lo n c x)(hne:a≠b){A B:List Value}{tA tB:TypeId} 
    (hA:w.heap[a]? =some (.cells A.toArray tA (0,0))) (hB:w.heap[b]? =some (.cells B.toArray tB (0,0))) (h0:B≠ []):
    (Extern.SlicesOverlaps.overlaps #[tS,tS] #[tR] #[v,x]).run P w = .ok (.bool false) w:=by
  obtain⟨o,rfl,-⟩:=hx
  obtain⟨oa,rfl,-⟩:=hv
  exact Lib.run_overlaps_apart w tS tR e ht k hz ⟨a,oa,none⟩ ⟨b,o,none⟩ n' c' n c hne tA tB A.length B.length (by simp[World.shape?,hA]) (by simp[World.shape?,hB]) (by simpa using h0) (by simp[World.frozen?,hA]) (by simp[World.frozen?,hA])
open Go.RowKit
section
variable {P : Program}
theorem G3{t e:TypeId}{size:Nat}(ht:P.underlying t=some (.slice e))(he:∀w' :World,(sizeOf e).run P w' = .ok size w'){w:World}{v:Value}{n:Nat}{xs:List Value}(hr:Reads w size v n xs)(lo hi:Option Value)(l h:Nat)(hlh:l≤h)(hn:h≤n) 
    (hlo:lo=none∧l=0∨∃k,lo=some (.int k l)) (hhi:hi=none∧h=n∨∃k,hi=some (.int k h)):
    ∃ao c,((∀w:World,(Instr.sliceAt t v lo hi none).run P w = .ok (.slice ao (h-l) c) w)∧(Value.slice ao (h-l) c).ownBlock=v.ownBlock)∧Reads w size (.slice ao (h-l) c) (h-l) ((xs.drop (l*size)).take ((h-l)*size)):=by
  obtain⟨h1,ao,cap,rfl,h2,h3,h4,h5⟩:=hr
  have hE:P.elem t=e:=by simp[Program.elem,ht]
  have ht' :P.underlying t=some (.slice (P.elem t)):=by rw[hE];exact ht
  refine⟨if cap=l then ao else ao.map (·.add (l*size)),cap-l,⟨?_,?_⟩,?_,_,_,rfl,by omega,by omega,?_,?_⟩
  · intro w
    rw[run_sliceAt_slice (P:=P) w t _ _ _ _ ht']
    have hl' :(l:Int)≤(h:Int):=by omega
    have hh' :(h:Int)≤(cap:Int):=by omega
    have hn' :(l:Int)≤(n:Int):=by omega
    rcases hlo with ⟨rfl,rfl⟩ | ⟨k,rfl⟩ <;> rcases hhi with ⟨rfl,rfl⟩ | ⟨k',rfl⟩
    · rw[run_slice_all (P:=P) w t ao h cap ht',hE,he]
      simp[Result.andThen,sliced]
    · rw[run_slice_h (P:=P) w t ao n cap ht' k' h (by omega) hh',hE,he]
      simp[Result.andThen,sliced]
    · rw[run_slice_l (P:=P) w t ao h cap ht' k l (by omega) hl',hE,he]
      simp[Result.andThen,sliced]
    · rw[run_slice_lh (P:=P) w t ao n cap ht' k k' l h (by omega) hl' hh',hE,he]
      simp[Result.andThen,sliced]
  · cases ao with
    | none=>simp[Value.ownBlock]
    | some x=>
      split
      · rfl
      · simp only[Option.map_some,Value.ownBlock,Option.some.injEq]
        unfold Addr.add
        split <;> rfl
  · rw[List.length_take,List.length_drop,h1]
    have:(h-l)*size≤n*size-l*size:=by rw[←Nat.sub_mul];exact Nat.mul_le_mul_right _ (by omega)
    omega
  · intro hnone
    have:ao=none:=by
      cases ao with
      | none=>rfl
      | some x=>split at hnone <;> simp at hnone
    obtain⟨h6,h7⟩:=h4 this
    omega
  · intro a ha j u hu
    have hj:j<((xs.drop (l*size)).take ((h-l)*size)).length:=(List.getElem?_eq_some_iff.1 hu).1
    have hj2:j<(h-l)*size:=by rw[List.length_take]at hj;omega
    have hhl:h-l≠0:=fun e=>by rw[e]at hj2;simp at hj2
    rw[if_neg (by omega)]at ha
    cases ao with
    | none=>simp at ha
    | some x=>
      simp at ha
      subst ha
      rw[E9]
      refine h5 x rfl _ _ ?_
      rw[List.getElem?_take,if_pos hj2,List.getElem?_drop]at hu
      exact hu
end
section
variable {P : Program} {K : Value → World → Prop} {ρ : Au} {w w0 : World} {d : Option Tmp} {ty : TypeId} {pos : String} {af : Array Edge} {gd : Option (Nat × Bool)}
variable {α : Type} {k : Nat} {enc : α → List Value} {t e : TypeId}
theorem Yk.sliceLoW(ht:P.underlying t=some (.slice e))(he:∀w' :World,(sizeOf e).run P w' = .ok k w'){x lo:Operand}{v:Value}{xs:List α}(hx:Ag ρ x=v)(h:RG k enc w0 v xs){kd:IntKind}{l:Nat}(hlo:Ag ρ lo = .int kd (l:Int))(hl:l≤xs.length) 
    (hk:∀v',RG k enc w0 v' (xs.drop l)→v'.ownBlock=v.ownBlock→K v' w):Yk P K ((execOp (Ag ρ) ⟨d, .slice t x (some lo) none none,ty,pos,af,gd⟩).run P w):=by
  obtain⟨ao,c,⟨hrun,hb⟩,hR⟩:=G3 ht he h.2 (some (.int kd l)) none l xs.length hl (Nat.le_refl _) (.inr ⟨kd,rfl⟩) (.inl ⟨rfl,rfl⟩)
  have hR' :=RG.cut h.1 hl (Nat.le_refl _) hR
  rw[List.take_of_length_le (by rw[List.length_drop];exact Nat.le_refl _)]at hR'
  refine Yk.value (v:= .slice ao (xs.length-l) c) (w' :=w) ?_ (hk _ hR' hb)
  unfold execOp
  simp only[hx,hlo,Option.map_some,Option.map_none,hrun,Sem.run_bind,Sem.run_pure,Result.andThen_ok]
end
theorem OG.block{α:Type}{b k:Nat}{t:TypeId}{enc:α→List Value}{w:World}{v:Value}{l:List α}(h:OG b t k enc w v l){i:Nat}(hi:i<l.length):∃g,v.ownBlock=some g:=by
  obtain⟨-,-,⟨-,h⟩ | ⟨g,cap,cur,rfl,-⟩⟩:=h
  · omega
  · exact⟨g,rfl⟩
theorem RH{b:Nat}{t:TypeId}{w:World}{v:Value}{n z:Nat}{xs:List Value}(h:w.ownsRow b t z v n xs){i:Nat}(hi:i<n):∃g,v.ownBlock=some g:=by
  obtain⟨-,⟨-,h⟩ | ⟨g,cap,cur,rfl,-⟩⟩:=h
  · omega
  · exact⟨g,rfl⟩
section
variable {P : Program} {K : Value → World → Prop} {ρ : Au} {w : World} {d : Option Tmp} {ty : TypeId} {pos : String} {af : Array Edge} {gd : Option (Nat × Bool)}
theorem Yk.atOwnK{k:Nat}{t e:TypeId}(ht:P.underlying t=some (.slice e))(he:∀w' :World,(sizeOf e).run P w' = .ok k w'){b n g:Nat}{xs:List Value}{e' :TypeId}{v:Value}{x y:Operand}(hx:Ag ρ x=v)(h:w.ownsRow b e' k v n xs)(hg:v.ownBlock=some g){kd:IntKind}{i:Nat}(hy:Ag ρ y = .int kd (i:Int))(hi:i<n) 
    (hk:K (PQ g (i*k)) w):Yk P K ((execOp (Ag ρ) ⟨d, .indexAddr t x y,ty,pos,af,gd⟩).run P w):=by
  obtain⟨-,⟨-,h0⟩ | ⟨g',cap,cur,rfl,-⟩⟩:=h
  · omega
  · obtain rfl:g' =g:=by simpa [Value.ownBlock] using hg
    refine Yk.value (v:=PQ g' (i*k)) (w' :=w) ?_ hk
    have hE:P.elem t=e:=by simp[Program.elem,ht]
    have hr:=run_indexAt_slice (P:=P) w t ⟨g',0,none⟩ n cap kd (i:Int) (by rw[hE];exact ht)
    rw[if_pos (by omega),hE,he]at hr
    unfold execOp
    simp only[hx,hy,Sem.run_bind,hr,Result.andThen_ok,Sem.run_pure]
    simp[Addr.add_lit]
end
open Go.RowKit
section
variable {P : Program} {K : Value → World → Prop} {ρ : Au} {w : World} {d : Option Tmp} {ty : TypeId} {pos : String} {af : Array Edge} {gd : Option (Nat × Bool)}
theorem Yk.gtSt{t ty2:TypeId}{x y:Operand}{l m:List UInt8}(hx:Ag ρ x=St l)(hy:Ag ρ y=St m)(hk:K (.bool (!(Op.bytesLess l m||l==m))) w):Yk P K ((execOp (Ag ρ) ⟨d, .binOp .gtr t x y ty2,ty,pos,af,gd⟩).run P w):=by
  refine Yk.value (v:= .bool (!(Op.bytesLess l m||l==m))) (w' :=w) ?_ hk
  unfold execOp
  simp only[hx,hy,eqGuard,Go.binOp,Op.stringOp,El,Sem.run_bind,Sem.run_pure]
  rfl
end
def Cr(a b:List UInt8):Int:=if Op.bytesLess a b=true then -1 else if(!(Op.bytesLess a b||a==b))=true then 1 else 0
theorem Lj{a b:List UInt8}:Cr a b<0↔a<b:=by
  unfold Cr
  rw[bytesLess_eq]
  by_cases h:a<b
  · simp[h]
  · simp only[h,decide_false,Bool.false_eq_true,if_false,iff_false]
    split <;> omega
theorem NQ{a b:List UInt8}:Cr a b=0↔a=b:=by
  unfold Cr
  rw[bytesLess_eq]
  by_cases h:a<b
  · simp only[h,decide_true,if_true]
    constructor
    · intro e;omega
    · rintro rfl;exact absurd h (List.lt_irrefl _)
  · simp only[h,decide_false,Bool.false_eq_true,if_false,Bool.false_or]
    by_cases e:a=b
    · subst e;simp
    · simp[e]
def Dj(l:List AK):Prop:=∀i j,i<j→j<l.length→(l.getD i dNmd).name<(l.getD j dNmd).name
def Hu(l:List AK)(s:List UInt8)(p:Nat):Prop:=p≤l.length∧(∀j,j<p→(l.getD j dNmd).name<s)∧(∀j,p≤j→j<l.length→¬(l.getD j dNmd).name<s)
theorem NR{l:List AK}{s:List UInt8}{m:Nat}(hs:Dj l)(hm:m<l.length)(h:(l.getD m dNmd).name<s):∀j,j<m+1→(l.getD j dNmd).name<s:=fun j hj=>by
  by_cases e:j=m
  · rw[e];exact h
  · exact List.lt_trans (hs j m (by omega) hm) h
theorem IF{l:List AK}{s:List UInt8}{m:Nat}(hs:Dj l)(h:¬(l.getD m dNmd).name<s):∀j,m≤j→j<l.length→¬(l.getD j dNmd).name<s:=fun j hj hl hk=>by
  by_cases e:m=j
  · subst e;exact h hk
  · exact h (List.lt_trans (hs m j (by omega) hl) hk)
open Go.RowKit
set_option maxRecDepth 100000
theorem IG:Tryz.prog.underlying 114=some (.int .u64):=by kernel_rfl
theorem JF:AI Tryz.prog 73:=fun _ _=>by kernel_rfl
set_option maxHeartbeats 1600000
theorem G4(w:World)(n:AK)(s:Bs):
  Calls Tryz.prog 73 #[.agg (nmdC n).toArray,St s] w fun e w' =>e = .returned (.int .i64 (Cr n.name s))∧Ext w w' :=by
 refine As (args:= [.agg (nmdC n).toArray,St (s)]) Tryz.func73 rfl 15 rfl (Nat.le_of_ble_eq_true rfl) ?_
 intro f hb
 have j:f 0=(.agg (nmdC n).toArray:Value):=hb.get 0
 have g:f 1=(St (s):Value):=hb.get 1
 clear hb
 have hE:=Ext.refl w
 refine sk fun y k=>(wt (oS rfl (Yk.box (cs:=(nmdC n:List Value).toArray) j fun a o z h p aa=> ?_)))
 have hE:=hE.trans p
 have i:=h;clear h
 have ab:a<o.heap.size:=by omega
 refine oA rfl (oZ (tN (k _ _ (sk fun ac q=>(Av (sk fun ad r=>(wt (oS rfl (Yk.fieldAt FJ (vr (PQ a 0) rfl) (oS rfl (Yk.cell1 DT rfl (vr (PQ a 0) rfl) (Al i (show(nmdC n)[0]? =some (St (n.name):Value)from Ed n)) (oM rfl (oS rfl (Yk.ltSt (l:=n.name) (m:=s) (.inl rfl) (vr (St (n.name)) rfl) g (Op.bytesLess n.name s) rfl (oA rfl (oZ (tN (r _ _ ?_))))))))))))))))))
 refine AW (Op.bytesLess n.name s) (vr (.bool (Op.bytesLess n.name s)) rfl) (fun b=> ?_) (fun b=> ?_)
 ·refine sk fun ae t=>(wt (oA rfl (oZ (tN (t _ _ (Am (AE (An (Aj (fn:=Tryz.f73) _ rfl [.int .i64 (-1:Int)] (.int .i64 (-1:Int)) rfl ⟨rfl,trivial⟩ ?_)))))))))
  exact⟨congrArg Ending.returned (congrArg (Value.int .i64) (by unfold Cr;(rw[if_pos b]) <;> rfl)),hE⟩
 refine sk fun af u=>(wt (oS rfl (Yk.fieldAt FJ (vr (PQ a 0) rfl) (oS rfl (Yk.cell1 DT rfl (vr (PQ a 0) rfl) (Al i (show(nmdC n)[0]? =some (St (n.name):Value)from Ed n)) (oM rfl (oS rfl (Yk.gtSt (l:=n.name) (m:=s) (vr (St (n.name)) rfl) g (oA rfl (oZ (tN (u _ _ ?_))))))))))))
 refine AW (!(Op.bytesLess n.name s||n.name==s)) (vr (.bool (!(Op.bytesLess n.name s||n.name==s))) rfl) (fun c=> ?_) (fun c=> ?_)
 ·refine sk fun ag v=>(wt (oA rfl (oZ (tN (v _ _ (Am (AE (An (Aj (fn:=Tryz.f73) _ rfl [NI 1] (NI 1) rfl ⟨rfl,trivial⟩ ?_)))))))))
  exact⟨congrArg Ending.returned (congrArg (Value.int .i64) (by unfold Cr;(rw[if_neg (by rw[b];decide),if_pos c]) <;> rfl)),hE⟩
 refine Aq (bN (tN (q _ _ (sk fun ah x=>(wt (oA rfl (oZ (tN (x _ _ (Am (Aj (fn:=Tryz.f73) _ rfl [NI 0] (NI 0) rfl ⟨rfl,trivial⟩ ?_)))))))))))
 exact⟨congrArg Ending.returned (congrArg (Value.int .i64) (by unfold Cr;(rw[if_neg (by rw[b];decide),if_neg (by rw[c];decide)]) <;> rfl)),hE⟩

theorem MP(w:World)(v:Value)(l:List AK)(hr:RG 33 nmdC w v l)(hl:l.length≤1000)(hs:Dj l)(s:Bs):
  Calls Tryz.prog 72 #[v,St s, .func (.func 73) #[] #[]] w fun e w' =>(∃p,e = .returned (.tuple #[NI p, .bool (decide (p<l.length)&&decide ((Cr (l.getD p dNmd).name s)=((0:Nat):Int)))])∧Hu l s p)∧Ext w w' :=by
 refine As (args:= [v,St (s), .func (.func 73) #[] #[]]) Tryz.func72 rfl 49 rfl (Nat.le_of_ble_eq_true rfl) ?_
 intro y hb
 have f:y 0=(v:Value):=hb.get 0
 have g:y 1=(St (s):Value):=hb.get 1
 have m:y 2=(.func (.func 73) #[] #[]:Value):=hb.get 2
 clear hb
 have hE:=Ext.refl w
 refine sk fun K1 ag=>(wt (oA rfl (oA rfl (oZ (tN (ag _ _ (sk fun K2 ah=>(wt (oM rfl (oS rfl (Yk.lenRG D5 (RG.of hr f) (oA rfl (oZ (tN (ah _ _ (sk fun K3 ai=>(wt (oM rfl ?_))))))))))))))))))
 refine oA rfl (oA rfl (A3 [(0,v),(1,St (s)),(2, .func (.func 73) #[] #[]),(6,NI 0),(7, .bool (false)),(8,NI l.length),(9,NI 0),(10,NI l.length)] ⟨f,g,m,rfl,rfl,rfl,rfl,rfl,trivial⟩ fun ax ⟨f,g,m,q,r,o,c,n,_⟩=>(tN (ai _ _ (sk fun K5 aj=>(Av (A4 (fun(ρ:Au) (wz:World)=>∃i:Nat,∃k:Nat,ρ 0=(v:Value)∧ρ 1=(St (s):Value)∧ρ 2=(.func (.func 73) #[] #[]:Value)∧ρ 6=(NI 0:Value)∧ρ 7=(.bool (false):Value)∧ρ 8=(NI l.length:Value)∧ρ 9=(NI i:Value)∧ρ 10=(NI k:Value)∧RG 33 nmdC wz v l∧Ext w wz∧(i≤k)∧(k≤l.length)∧(∀j,j<i→(l.getD j dNmd).name<s)∧(∀j,k≤j→j<l.length→¬(l.getD j dNmd).name<s)∧True) (fun ρ _=>(intOf (ρ 10)).toNat-(intOf (ρ 9)).toNat) ⟨0,l.length,f,g,m,q,r,o,c,n,hr,hE,Nat.zero_le _,Nat.le_refl _,fun j hj=>absurd hj (Nat.not_lt_zero _),fun j h1 h2=>by omega,trivial⟩ ?_)))))))
 clear hr hE
 rintro t w7 ⟨i,k,f,g,m,q,r,o,c,n,hr,hE,hik,hkl,hlo,hhi,-⟩
 have q10:=n
 have q9:=c
 refine sk fun K8 al=>(sk fun K9 am=>(wt (oM rfl (oM rfl (oS rfl (Yk.eqI (a:=(i:Nat)) (b:=(k:Nat)) c n (AX _ _ _ _) (oZ (tN (am _ _ ?_)))))))))
 refine AL ((i)<(k)) (vr (.bool (decide ((i)<(k)))) rfl) (fun ad=> ?_) (fun ad=> ?_)
 ·have hlt:i<k:=ad
  have hm0:((i+k)/2^(1))<l.length:=by omega
  refine Aq (tN (al _ _ (Av (sk fun a1 an=>(wt (oM rfl (oM rfl (oS rfl (Yk.bin (xv:=NI i) (yv:=NI k) c n rfl (AA _ _ _ (by omega)) (oS rfl (Yk.convI Li IG (vr (NI ((i)+(k))) rfl) (Pk ((i)+(k)) (by omega)) (oS rfl (Yk.bin (xv:= .int .u64 (((i)+(k):Nat):Int)) (yv:= .int .u64 ((1:Nat):Int)) rfl rfl rfl (Qk _ _ _ _ (by omega)) (oS rfl (Yk.convI IG Li (vr (.int .u64 ((((i)+(k))/2^(1):Nat):Int)) rfl) (BJ (((i)+(k))/2^(1)) (by omega)) (oA rfl (oZ (tN (an _ _ (sk fun a2 ao=>(wt ?_)))))))))))))))))))))
  refine oM rfl (oM rfl (oM rfl ?_))
  have a3:(nmdC (l.getD (((i)+(k))/2^(1)) dNmd)).length=33:=(RG.elem hr dNmd (by omega))
  refine oS rfl (Yk.atRG D5 Iw (by decide) dNmd (RG.of hr f) (vr (NI (((i)+(k))/2^(1))) rfl) (by omega) fun ap u=>(oS rfl (Yk.loadPR (PR.of u (vr ap rfl)) (NF).choose_spec rfl (by rw[Bq];exact Ix) (oM rfl (oS rfl (Yk.clo JF (caps:= #[]) m #[.agg (nmdC (l.getD (((i)+(k))/2^(1)) dNmd)).toArray,St (s)] (by simp only[List.map_toArray,List.map_cons,List.map_nil,List.append_toArray,List.cons_append,List.nil_append];exact congrArg List.toArray (CZ (vr (.agg (nmdC (l.getD (((i)+(k))/2^(1)) dNmd)).toArray) rfl) g)) ((G4 _ (l.getD (((i)+(k))/2^(1)) dNmd) s).mono ?_)))))))
  rintro e a4 ⟨rfl,z⟩
  refine⟨_,rfl,?_⟩
  have hr:=hr.keep z
  have hE:=hE.trans z
  have u:=PR.keep u z
  refine oS rfl (Yk.eqI (vr (.int .i64 ((Cr (l.getD (((i)+(k))/2^(1)) dNmd).name s):Int)) rfl) (vr (NI 0) rfl) (Kz _ .i64 ((Cr (l.getD (((i)+(k))/2^(1)) dNmd).name s):Int) ((0:Nat):Int)) (oZ ?_))
  clear u
  refine tN (ao _ _ ?_)
  refine AL (((Cr (l.getD (((i)+(k))/2^(1)) dNmd).name s):Int)<((0:Nat):Int)) (vr (.bool (decide (((Cr (l.getD (((i)+(k))/2^(1)) dNmd).name s):Int)<((0:Nat):Int)))) rfl) (fun aa=> ?_) (fun aa=> ?_)
  ·refine wt (oM rfl (oS rfl (Yk.bin (xv:=NI (((i)+(k))/2^(1))) (yv:=NI 1) rfl rfl rfl (AA _ _ _ (by omega)) (oA rfl (A3 [(0,v),(1,St (s)),(2, .func (.func 73) #[] #[]),(6,NI 0),(7, .bool (false)),(8,NI l.length),(9,NI ((((i)+(k))/2^(1))+(1))),(10,NI k),(11,NI (((i)+(k))/2^(1)))] ⟨f,g,m,q,r,o,rfl,n,rfl,trivial⟩ fun ae ⟨f,g,m,q,r,o,c,n,aq,_⟩=>(bN (tN (And.intro ⟨((i+k)/2^(1))+1,k,f,g,m,q,r,o,c,n,hr,hE,by omega,by omega,NR hs (by omega) (Lj.1 aa),hhi,trivial⟩ ?_))))))))
   show(intOf (ae 10)).toNat-(intOf (ae 9)).toNat<(intOf (t 10)).toNat-(intOf (t 9)).toNat
   rw[n,c,q10,q9]
   simp only[intOf,Int.toNat_natCast];omega
  refine wt (oM rfl (oA rfl (A3 [(0,v),(1,St (s)),(2, .func (.func 73) #[] #[]),(6,NI 0),(7, .bool (false)),(8,NI l.length),(9,NI i),(10,NI (((i)+(k))/2^(1))),(11,NI (((i)+(k))/2^(1)))] ⟨f,g,m,q,r,o,c,rfl,rfl,trivial⟩ fun af ⟨f,g,m,q,r,o,c,n,aq,_⟩=>(bN (tN (And.intro ⟨i,((i+k)/2^(1)),f,g,m,q,r,o,c,n,hr,hE,by omega,by omega,hlo,IF hs (fun h=>aa (Lj.2 h)),trivial⟩ ?_))))))
  show(intOf (af 10)).toNat-(intOf (af 9)).toNat<(intOf (t 10)).toNat-(intOf (t 9)).toNat
  rw[n,c,q10,q9]
  simp only[intOf,Int.toNat_natCast];omega
 refine AP (Ar (Ar (Az (tN (aj _ _ (sk fun a5 ar=>(wt (oM rfl (oM rfl (oM rfl (oS rfl (Yk.eqI (a:=(i:Nat)) (b:=(l.length:Nat)) c o (AX _ _ _ _) (oM rfl (Ac (.func (.func 73) #[] #[]) rfl rfl (gT (vr (.bool (decide ((i)<(l.length)))) rfl)) (fun hG20=>Yk.move m ⟨rfl,rfl⟩) (Ac (v) rfl rfl (gT (vr (.bool (decide ((i)<(l.length)))) rfl)) (fun hG21=>Yk.move f ⟨rfl,rfl⟩) (Ac (NI i) rfl rfl (gT (vr (.bool (decide ((i)<(l.length)))) rfl)) (fun hG22=>Yk.move c ⟨rfl,rfl⟩) ?_))))))))))))))))
 have a6:((decide ((i)<(l.length))))=true→(nmdC (l.getD (i) dNmd)).length=33:=fun hG23=>(RG.elem hr dNmd (by simp only[gA,gB,gC,gD,gE]at hG23;omega))
 refine GV (fun ab=>PR (nmdC (l.getD (i) dNmd)) ab w7) rfl rfl (gT (vr (.bool (decide ((i)<(l.length)))) rfl)) (fun hG23=>Yk.atRG D5 Iw (by decide) dNmd (RG.of hr (Ak (vr (cond ((decide ((i)<(l.length)))) (v) undef) rfl) hG23)) (Ak (vr (cond ((decide ((i)<(l.length)))) (NI i) undef) rfl) hG23) (by simp only[gA,gB,gC,gD,gE]at hG23;omega) fun _ h=>⟨h,rfl⟩) fun ab x=>(Ac (.agg (nmdC (l.getD (i) dNmd)).toArray) rfl rfl (gT (vr (.bool (decide ((i)<(l.length)))) rfl)) (fun hG27=>Yk.loadPR (PR.of (x hG27) (vr ab rfl)) (NF).choose_spec rfl (by rw[Bq];exact Ix) ⟨rfl,rfl⟩) (Ac (St (s)) rfl rfl (gT (vr (.bool (decide ((i)<(l.length)))) rfl)) (fun hG28=>Yk.move g ⟨rfl,rfl⟩) (BF (.int .i64 ((Cr (l.getD (i) dNmd).name s):Int)) rfl rfl (gT (vr (.bool (decide ((i)<(l.length)))) rfl)) (fun hG29=>Yk.clo JF (caps:= #[]) (Ak (vr (cond ((decide ((i)<(l.length)))) (.func (.func 73) #[] #[]) undef) rfl) hG29) #[.agg (nmdC (l.getD (i) dNmd)).toArray,St (s)] (by simp only[List.map_toArray,List.map_cons,List.map_nil,List.append_toArray,List.cons_append,List.nil_append];exact congrArg List.toArray (CZ (Ak (vr (cond ((decide ((i)<(l.length)))) (.agg (nmdC (l.getD (i) dNmd)).toArray) undef) rfl) hG29) (Ak (vr (cond ((decide ((i)<(l.length)))) (St (s)) undef) rfl) hG29))) ((G4 _ (l.getD (i) dNmd) s).mono (by rintro e w2 ⟨rfl,hx⟩;exact⟨_,rfl,rfl,hx⟩))) fun a8 ac=> ?_)))
 have x:=fun(e_:((decide ((i)<(l.length))))=true)=>(PR.keep (x e_) ac)
 have hr:=hr.keep ac
 have hE:=hE.trans ac
 refine Ac (.bool (decide (((Cr (l.getD (i) dNmd).name s):Int)=((0:Nat):Int)))) rfl rfl (gT (vr (.bool (decide ((i)<(l.length)))) rfl)) (fun hG33=>Yk.eqI (Ak (vr (cond ((decide ((i)<(l.length)))) (.int .i64 ((Cr (l.getD (i) dNmd).name s):Int)) undef) rfl) hG33) (vr (NI 0) rfl) (Rt _ .i64 ((Cr (l.getD (i) dNmd).name s):Int) ((0:Nat):Int)) ⟨rfl,rfl⟩) (oS rfl (Yk.pickAndN (vr (.bool (decide ((i)<(l.length)))) rfl) (fun hA=>(Ak (vr (cond ((decide ((i)<(l.length)))) (.bool (decide (((Cr (l.getD (i) dNmd).name s):Int)=((0:Nat):Int)))) undef) rfl) hA)) (vr (.bool (false)) rfl) fun bb34 hbb35=>(oA rfl (oA rfl (oZ ?_)))))
 clear x
 refine tN (ar _ _ (Am (Aj (fn:=Tryz.f72) _ rfl [NI i, .bool (bb34)] (.tuple #[NI i, .bool (bb34)]) rfl ⟨c,rfl,trivial⟩ ?_)))
 subst hbb35
 exact⟨⟨i,rfl,by omega,hlo,fun j hj=>hhi j (by omega)⟩,hE⟩
open Go.RowKit
section
variable {P : Program} {K : Value → World → Prop} {ρ : Au} {w : World} {d : Option Tmp} {ty : TypeId} {pos : String} {af : Array Edge} {gd : Option (Nat × Bool)}
theorem NS{t e:TypeId}(ht:P.underlying t=some (.slice e))(a:Option Addr)(n c:Nat)(w:World):(Op.equal t (.slice a n c) (.slice none 0 0)).run P w = .ok a.isNone w:=by
  unfold Op.equal
  rw[show Op.maxDepth=(Op.maxDepth-1)+1 from rfl]
  cases a <;> simp[Op.equalIn,run_underlying ht,Sem.run_bind,Sem.run_pure]
theorem Yk.eqlNilSl{t e ty2:TypeId}(ht:P.underlying t=some (.slice e)){x:Operand}{a:Option Addr}{n c:Nat}(hx:Ag ρ x = .slice a n c)(hk:K (.bool a.isNone) w):Yk P K ((execOp (Ag ρ) ⟨d, .binOp .eql t x (.const (.slice none 0 0)) ty2,ty,pos,af,gd⟩).run P w):=by
  have hy:Ag ρ (.const (.slice none 0 0)) = .slice none 0 0:=rfl
  refine Yk.value (v:= .bool a.isNone) (w' :=w) ?_ hk
  have hr:=NS ht a n c w
  unfold execOp
  simp only[hx,hy]
  cases a <;> simp[eqGuard,Go.binOp,hr]
end
open Go.RowKit
set_option maxRecDepth 100000
def Qb(u:Ba):Bool:=(decide (u.kind.toNat=2)&&(!Ai u.old))&&(!Ai u.new)
def Q3(u:Ba):Bool:=decide (u.kind.toNat=3)&&((!Ai u.old)||(decide (u.name= [])==Ai u.new))
def Q4(u:Ba):Bool:=(!Ap u.name)&&(decide (u.kind.toNat≠3)||decide (u.name≠ []))
def BI(u:Ba):Nat:=if(!B3 u.kind)=true then 1 else if Qb u=true then 1 else if Q3 u=true then 1 else if Q4 u=true then 10 else 0
def Bt(l:List AK)(s:Bs)(p:Nat):Bool:=decide (p<l.length)&&decide ((l.getD p dNmd).name=s)
theorem Pz(l:List AK)(s:Bs)(p:Nat):(decide (p<l.length)&&decide ((Cr (l.getD p dNmd).name s)=((0:Nat):Int)))=Bt l s p:=by
 unfold Bt
 rw[show decide ((Cr (l.getD p dNmd).name s)=((0:Nat):Int))=decide ((l.getD p dNmd).name=s)from decide_eq_decide.2 NQ]
theorem MQ(w:World):(Instr.buildSlice 33 0 #[]).run Tryz.prog w = .ok (.slice (some ⟨w.heap.size,0,none⟩) 0 0) (w.alloc (.cells #[] 60)):=by kernel_rfl
theorem wr30_ig60:∃z,(Tryz.prog.info? 60).map (fun i=>(i.zero,i.size,i.bytes))=some (some z,33,48)∧z.cells.size=33:=Hs (by kernel_rfl)
theorem MR(w:World):(Instr.buildSlice 25 0 #[]).run Tryz.prog w = .ok (.slice (some ⟨w.heap.size,0,none⟩) 0 0) (w.alloc (.cells #[] 50)):=by kernel_rfl
theorem wr30_ig50:∃z,(Tryz.prog.info? 50).map (fun i=>(i.zero,i.size,i.bytes))=some (some z,67,104)∧z.cells.size=67:=Hs (by kernel_rfl)
theorem NT:AI Tryz.prog 72:=fun _ _=>by kernel_rfl
theorem HU:Bm Tryz.prog 48 2 2:=fun b o w=>by simp[go_sem]
theorem HV:Bm Tryz.prog 48 3 34:=fun b o w=>by simp[go_sem]
theorem PA:Tryz.prog.underlying 4=some (.bool):=by kernel_rfl
set_option maxHeartbeats 1600000
theorem NU(w:World):
  Calls Tryz.prog 54 #[(.slice none 0 0)] w fun e w' =>∃v',e = .returned v' ∧OG w.heap.size 60 33 nmdC w' v' []∧Ext w w' :=by
 refine As (args:= [(.slice none 0 0)]) Tryz.func54 rfl 8 rfl (Nat.le_of_ble_eq_true rfl) ?_
 intro a hb
 have b:a 0=((.slice none 0 0):Value):=hb.get 0
 clear hb
 have hE:=Ext.refl w
 refine sk fun h c=>(wt (oA rfl (oZ (tN (c _ _ (sk fun i j=>(sk fun k f=>(wt (oM rfl (oS rfl (Yk.eqlNilSl D5 b (oZ (tN (f _ _ (wpF_true (vr (.bool (true)) rfl) (sk fun l g=>(wt (oA rfl ?_))))))))))))))))))
 refine oZ (tN (g _ _ (Am (An (Aj (fn:=Tryz.f54) _ rfl [(Value.slice none 0 0)] ((Value.slice none 0 0)) rfl ⟨rfl,trivial⟩ ?_)))))
 exact⟨_,rfl,OG.nil _ _ _ _ _,hE⟩

theorem NV(w:World)(a:Addr)(c:Nat)(l:List AK)(hr:RG 33 nmdC w (.slice (some a) l.length c) l)(hl:l.length<1000000):
  Calls Tryz.prog 54 #[(.slice (some a) l.length c)] w fun e w' =>∃v',e = .returned v' ∧OG w.heap.size 60 33 nmdC w' v' l∧Ext w w' :=by
 refine As (args:= [(.slice (some a) l.length c)]) Tryz.func54 rfl 8 rfl (Nat.le_of_ble_eq_true rfl) ?_
 intro j hb
 have h:j 0=((.slice (some a) l.length c):Value):=hb.get 0
 clear hb
 have hE:=Ext.refl w
 refine sk fun u m=>(wt (oA rfl (oZ (tN (m _ _ (sk fun v n=>(sk fun x o=>(wt (oM rfl (oS rfl (Yk.eqlNilSl D5 h (oZ (tN (o _ _ (AH (vr (.bool (false)) rfl) (Aq (tN (n _ _ (sk fun y p=> ?_)))))))))))))))))))
 refine wt (oS rfl (Yk.lit0G (k:=33) (enc:=nmdC) MQ fun i q b r=> ?_))
 have hE:=hE.trans r
 refine oM rfl (oS rfl (Yk.appendRG _ _ w.heap.size _ 48 D5 wr30_ig60.choose_spec.1 wr30_ig60.choose_spec.2 D5 ([]) (l) (OG.of b (vr i rfl)) (RG.of (hr.keep hE) h) (fun _ _=>CL) (by simp only[List.length_nil];omega) (by simp only[List.length_nil];omega) hE.size fun f s t g=> ?_))
 have g:Grew q s i f:=g
 have hE:=AZ hE g b.2 (Nat.le_refl _)
 clear b
 refine oA rfl (oZ (tN (p _ _ (Am (Aj (fn:=Tryz.f54) _ rfl [f] (f) rfl ⟨rfl,trivial⟩ ?_)))))
 exact⟨_,rfl,(show OG _ _ _ _ _ _ _ from by simpa using t),hE⟩

theorem Eh(w:World)(v:Value)(l:List AK)(h:RG 33 nmdC w v l)(hl:l.length<1000000):
  Calls Tryz.prog 54 #[v] w fun e w' =>∃v',e = .returned v' ∧OG w.heap.size 60 33 nmdC w' v' l∧Ext w w' :=by
 obtain⟨h0,h1,ao,cap,rfl,h2,h3,h4,h5⟩:=id h
 cases ao with
 | none=>
  have hl:=h4 rfl
  have:l= []:=List.eq_nil_of_length_eq_zero hl.1
  subst this
  rw[show cap=0 from hl.2]
  exact NU w
 | some a=>exact NV w a cap l h hl

theorem NW(w:World):
  Calls Tryz.prog 55 #[(.slice none 0 0)] w fun e w' =>∃v',e = .returned v' ∧OG w.heap.size 50 67 entC w' v' []∧Ext w w' :=by
 refine As (args:= [(.slice none 0 0)]) Tryz.func55 rfl 8 rfl (Nat.le_of_ble_eq_true rfl) ?_
 intro a hb
 have b:a 0=((.slice none 0 0):Value):=hb.get 0
 clear hb
 have hE:=Ext.refl w
 refine sk fun h c=>(wt (oA rfl (oZ (tN (c _ _ (sk fun i j=>(sk fun k f=>(wt (oM rfl (oS rfl (Yk.eqlNilSl EA b (oZ (tN (f _ _ (wpF_true (vr (.bool (true)) rfl) (sk fun l g=>(wt (oA rfl ?_))))))))))))))))))
 refine oZ (tN (g _ _ (Am (An (Aj (fn:=Tryz.f55) _ rfl [(Value.slice none 0 0)] ((Value.slice none 0 0)) rfl ⟨rfl,trivial⟩ ?_)))))
 exact⟨_,rfl,OG.nil _ _ _ _ _,hE⟩

theorem NX(w:World)(a:Addr)(c:Nat)(l:List AM)(hr:RG 67 entC w (.slice (some a) l.length c) l)(hl:l.length<1000000):
  Calls Tryz.prog 55 #[(.slice (some a) l.length c)] w fun e w' =>∃v',e = .returned v' ∧OG w.heap.size 50 67 entC w' v' l∧Ext w w' :=by
 refine As (args:= [(.slice (some a) l.length c)]) Tryz.func55 rfl 8 rfl (Nat.le_of_ble_eq_true rfl) ?_
 intro j hb
 have h:j 0=((.slice (some a) l.length c):Value):=hb.get 0
 clear hb
 have hE:=Ext.refl w
 refine sk fun u m=>(wt (oA rfl (oZ (tN (m _ _ (sk fun v n=>(sk fun x o=>(wt (oM rfl (oS rfl (Yk.eqlNilSl EA h (oZ (tN (o _ _ (AH (vr (.bool (false)) rfl) (Aq (tN (n _ _ (sk fun y p=> ?_)))))))))))))))))))
 refine wt (oS rfl (Yk.lit0G (k:=67) (enc:=entC) MR fun i q b r=> ?_))
 have hE:=hE.trans r
 refine oM rfl (oS rfl (Yk.appendRG _ _ w.heap.size _ 104 EA wr30_ig50.choose_spec.1 wr30_ig50.choose_spec.2 EA ([]) (l) (OG.of b (vr i rfl)) (RG.of (hr.keep hE) h) (fun _ _=>C7) (by simp only[List.length_nil];omega) (by simp only[List.length_nil];omega) hE.size fun f s t g=> ?_))
 have g:Grew q s i f:=g
 have hE:=AZ hE g b.2 (Nat.le_refl _)
 clear b
 refine oA rfl (oZ (tN (p _ _ (Am (Aj (fn:=Tryz.f55) _ rfl [f] (f) rfl ⟨rfl,trivial⟩ ?_)))))
 exact⟨_,rfl,(show OG _ _ _ _ _ _ _ from by simpa using t),hE⟩

theorem G5(w:World)(v:Value)(l:List AM)(h:RG 67 entC w v l)(hl:l.length<1000000):
  Calls Tryz.prog 55 #[v] w fun e w' =>∃v',e = .returned v' ∧OG w.heap.size 50 67 entC w' v' l∧Ext w w' :=by
 obtain⟨h0,h1,ao,cap,rfl,h2,h3,h4,h5⟩:=id h
 cases ao with
 | none=>
  have hl:=h4 rfl
  have:l= []:=List.eq_nil_of_length_eq_zero hl.1
  subst this
  rw[show cap=0 from hl.2]
  exact NW w
 | some a=>exact NX w a cap l h hl

theorem JG(w:World)(v:Value)(l:List AK)(hr:RG 33 nmdC w v l)(hl:l.length≤1000)(hs:Dj l)(s:Bs):
  Calls Tryz.prog 58 #[v,St s] w fun e w' =>(∃p,e = .returned (.tuple #[NI p, .bool (Bt l s p)])∧Hu l s p)∧Ext w w' :=by
 refine As (args:= [v,St (s)]) Tryz.func58 rfl 11 rfl (Nat.le_of_ble_eq_true rfl) ?_
 intro a hb
 have c:a 0=(v:Value):=hb.get 0
 have f:a 1=(St (s):Value):=hb.get 1
 clear hb
 have hE:=Ext.refl w
 refine sk fun i g=>(wt (oA rfl (oA rfl (oZ (tN (g _ _ (sk fun j h=>(wt (oM rfl (oM rfl (oS rfl (Yk.callA3 NT c f rfl ((MP _ v l hr hl hs s).mono ?_)))))))))))))
 rintro e k ⟨⟨p,rfl,hp⟩,b⟩
 refine⟨_,rfl,?_⟩
 have hr:=hr.keep b
 have hE:=hE.trans b
 refine oS rfl (Yk.extract (vs:= [NI p, .bool ((decide (p<l.length)&&decide ((Cr (l.getD p dNmd).name s)=((0:Nat):Int))))]) (vr (.tuple #[NI p, .bool ((decide (p<l.length)&&decide ((Cr (l.getD p dNmd).name s)=((0:Nat):Int))))]) rfl) (show _=some (NI p:Value)from rfl) (oS rfl (Yk.extract (vs:= [NI p, .bool ((decide (p<l.length)&&decide ((Cr (l.getD p dNmd).name s)=((0:Nat):Int))))]) (vr (.tuple #[NI p, .bool ((decide (p<l.length)&&decide ((Cr (l.getD p dNmd).name s)=((0:Nat):Int))))]) rfl) (show _=some (.bool ((decide (p<l.length)&&decide ((Cr (l.getD p dNmd).name s)=((0:Nat):Int)))):Value)from rfl) (oA rfl (oA rfl (oZ (tN (h _ _ (Am (Aj (fn:=Tryz.f58) _ rfl [NI p, .bool ((decide (p<l.length)&&decide ((Cr (l.getD p dNmd).name s)=((0:Nat):Int))))] (.tuple #[NI p, .bool ((decide (p<l.length)&&decide ((Cr (l.getD p dNmd).name s)=((0:Nat):Int))))]) rfl ⟨rfl,rfl,trivial⟩ ?_))))))))))
 exact⟨⟨p,by rw[←Pz],hp⟩,hE⟩

theorem MS(w:World)(y:Ba)(hl:y.name.length≤9223372036854775807):
  Calls Tryz.prog 57 #[.agg (updC y).toArray] w fun e w' =>e = .returned (NI (BI y))∧Ext w w' :=by
 refine As (args:= [.agg (updC y).toArray]) Tryz.func57 rfl 56 rfl (Nat.le_of_ble_eq_true rfl) ?_
 intro ab hb
 have i:ab 0=(.agg (updC y).toArray:Value):=hb.get 0
 clear hb
 have hE:=Ext.refl w
 refine sk fun K1 ac=>(wt (oS rfl (Yk.box (cs:=(updC y:List Value).toArray) i fun c w3 bc s ae bd=> ?_)))
 have hE:=hE.trans ae
 have f:=s;clear s
 have be:c<w3.heap.size:=by omega
 refine oA rfl (oZ (tN (ac _ _ (sk fun bf af=>(Av (sk fun bg j=>(sk fun bh ag=>(wt (oS rfl (Yk.fieldAt LW (vr (PQ c 0) rfl) (oS rfl (Yk.cell1 u5 rfl (vr (PQ c 0) rfl) (Al f (show(updC y)[0]? =some (B8 (y.kind):Value)from Fd y)) (oS rfl (Yk.callA1 NK (vr (B8 (y.kind)) rfl) ((JB _ y.kind).mono ?_)))))))))))))))
 rintro e bi ⟨rfl,t⟩
 refine⟨_,rfl,?_⟩
 have hE:=hE.trans t
 have f:=eb t f
 refine oS rfl (Yk.notB (vr (.bool (B3 y.kind)) rfl) (oA rfl (oZ (tN (ag _ _ ?_)))))
 refine AW (!(B3 y.kind)) (vr (.bool (!(B3 y.kind))) rfl) (fun k=> ?_) (fun k=> ?_)
 ·have h0c:(!B3 y.kind)=true:=k
  refine Aq (tN (j _ _ (wpF_true (vr (.bool (true)) ((show _=Value.bool ((!B3 y.kind))from rfl).trans (congrArg Value.bool h0c))) (sk fun bj ah=>(wt (oA rfl (oZ (tN (ah _ _ (Am (AE (An (Aj (fn:=Tryz.f57) _ rfl [NI 1] (NI 1) rfl ⟨rfl,trivial⟩ ?_)))))))))))))
  exact⟨by unfold BI;rw[if_pos h0c],hE⟩
 have h0c:(!B3 y.kind)=false:=k
 refine sk fun bk ai=>(wt (oS rfl (Yk.fieldAt LW (vr (PQ c 0) rfl) (oS rfl (Yk.cell1 u5 rfl (vr (PQ c 0) rfl) (Al f (show(updC y)[0]? =some (B8 (y.kind):Value)from Fd y)) (oS rfl (Yk.eqI (a:=((y.kind).toNat:Nat)) (b:=(2:Nat)) rfl rfl (A2 _ _ _ _) (oM rfl (Ac (PQ c 2) rfl rfl (gT (vr (.bool (decide (((y.kind).toNat:Nat)=(2)))) rfl)) (fun hG17=>Yk.fieldAt HU (vr (PQ c 0) rfl) ⟨rfl,rfl⟩) (Ac (AB y.old.1) rfl rfl (gT (vr (.bool (decide (((y.kind).toNat:Nat)=(2)))) rfl)) (fun hG18=>Yk.loadPR (PR.blk f (Fe y) (Ff y) (Ak (vr (cond ((decide (((y.kind).toNat:Nat)=(2)))) (PQ c 2) undef) rfl) hG18)) P8 rfl (At y.old.2) ⟨rfl,rfl⟩) (BF (.bool (Ai y.old)) rfl rfl (gT (vr (.bool (decide (((y.kind).toNat:Nat)=(2)))) rfl)) (fun hG19=>Yk.callA1 GZ (Ak (vr (cond ((decide (((y.kind).toNat:Nat)=(2)))) (AB y.old.1) undef) rfl) hG19) ((B9 _ y.old).mono (by rintro e n ⟨rfl,hx⟩;exact⟨_,rfl,rfl,hx⟩))) fun bm u=> ?_)))))))))))
 have hE:=hE.trans u
 have f:=eb u f
 refine Ac (.bool (!(Ai y.old))) rfl rfl (gT (vr (.bool (decide (((y.kind).toNat:Nat)=(2)))) rfl)) (fun hG23=>Yk.notB (Ak (vr (cond ((decide (((y.kind).toNat:Nat)=(2)))) (.bool (Ai y.old)) undef) rfl) hG23) ⟨rfl,rfl⟩) (oS rfl (Yk.pickAndN (vr (.bool (decide (((y.kind).toNat:Nat)=(2)))) rfl) (fun hA=>(Ak (vr (cond ((decide (((y.kind).toNat:Nat)=(2)))) (.bool (!(Ai y.old))) undef) rfl) hA)) (vr (.bool (false)) rfl) fun bb24 hbb25=>(oM rfl (Ac (PQ c 34) rfl rfl (gT (vr (.bool (bb24)) rfl)) (fun hG26=>Yk.fieldAt HV (vr (PQ c 0) rfl) ⟨rfl,rfl⟩) (Ac (AB y.new.1) rfl rfl (gT (vr (.bool (bb24)) rfl)) (fun hG27=>Yk.loadPR (PR.blk f (Dk y) (Dl y) (Ak (vr (cond (bb24) (PQ c 34) undef) rfl) hG27)) P8 rfl (At y.new.2) ⟨rfl,rfl⟩) (BF (.bool (Ai y.new)) rfl rfl (gT (vr (.bool (bb24)) rfl)) (fun hG28=>Yk.callA1 GZ (Ak (vr (cond (bb24) (AB y.new.1) undef) rfl) hG28) ((B9 _ y.new).mono (by rintro e n ⟨rfl,hx⟩;exact⟨_,rfl,rfl,hx⟩))) fun bn v=> ?_))))))
 have hE:=hE.trans v
 have f:=eb v f
 refine Ac (.bool (!(Ai y.new))) rfl rfl (gT (vr (.bool (bb24)) rfl)) (fun hG32=>Yk.notB (Ak (vr (cond (bb24) (.bool (Ai y.new)) undef) rfl) hG32) ⟨rfl,rfl⟩) (oS rfl (Yk.pickAndN (vr (.bool (bb24)) rfl) (fun hA=>(Ak (vr (cond (bb24) (.bool (!(Ai y.new))) undef) rfl) hA)) (vr (.bool (false)) rfl) fun bb33 hbb34=>(oA rfl (oZ (tN (ai _ _ ?_))))))
 refine AW (bb33) (vr (.bool (bb33)) rfl) (fun o=> ?_) (fun o=> ?_)
 ·subst hbb25 hbb34
  have h1c:Qb y=true:=o
  refine Aq (tN (j _ _ (wpF_true (vr (.bool (true)) ((show _=Value.bool (Qb y)from rfl).trans (congrArg Value.bool h1c))) (sk fun bo aj=>(wt (oA rfl (oZ (tN (aj _ _ (Am (AE (An (Aj (fn:=Tryz.f57) _ rfl [NI 1] (NI 1) rfl ⟨rfl,trivial⟩ ?_)))))))))))))
  exact⟨by unfold BI;rw[if_neg (by rw[h0c];decide),if_pos h1c],hE⟩
 subst hbb25 hbb34
 have h1c:Qb y=false:=o
 refine Bw [Is (PQ c 0),Is (B8 (y.kind)),Is (.bool (decide (((y.kind).toNat:Nat)=(3)))),Is (.bool (decide (((y.kind).toNat:Nat)=(3)))),Is (cond ((decide (((y.kind).toNat:Nat)=(3)))) (PQ c 2) undef),Is (cond ((decide (((y.kind).toNat:Nat)=(3)))) (AB y.old.1) undef),Is (cond ((decide (((y.kind).toNat:Nat)=(3)))) (.bool (Ai y.old)) undef),Is (cond ((decide (((y.kind).toNat:Nat)=(3)))) (.bool (!(Ai y.old))) undef),Is (cond ((decide (((y.kind).toNat:Nat)=(3)))) (.bool (!(Ai y.old))) undef),Is (cond ((decide (((y.kind).toNat:Nat)=(3)))&& !(!(Ai y.old))) (PQ c 1) undef),Is (cond ((decide (((y.kind).toNat:Nat)=(3)))&& !(!(Ai y.old))) (St (y.name)) undef),Is (cond ((decide (((y.kind).toNat:Nat)=(3)))&& !(!(Ai y.old))) (.bool (decide ((y.name:List UInt8)=(([]:List UInt8):List UInt8)))) undef),Is (cond ((decide (((y.kind).toNat:Nat)=(3)))&& !(!(Ai y.old))) (PQ c 34) undef),Is (cond ((decide (((y.kind).toNat:Nat)=(3)))&& !(!(Ai y.old))) (AB y.new.1) undef),Is (cond ((decide (((y.kind).toNat:Nat)=(3)))&& !(!(Ai y.old))) (.bool (Ai y.new)) undef),Is (cond ((decide (((y.kind).toNat:Nat)=(3)))&& !(!(Ai y.old))) (.bool ((decide ((y.name:List UInt8)=(([]:List UInt8):List UInt8)))==(Ai y.new))) undef),Is (cond ((decide (((y.kind).toNat:Nat)=(3)))) (.bool ((!(Ai y.old))||((decide ((y.name:List UInt8)=(([]:List UInt8):List UInt8)))==(Ai y.new)))) undef),Is (.bool ((decide (((y.kind).toNat:Nat)=(3)))&&((!(Ai y.old))||((decide ((y.name:List UInt8)=(([]:List UInt8):List UInt8)))==(Ai y.new))))),Is (.bool ((decide (((y.kind).toNat:Nat)=(3)))&&((!(Ai y.old))||((decide ((y.name:List UInt8)=(([]:List UInt8):List UInt8)))==(Ai y.new)))))] (by kernel_rfl) [23,24,25,26,27,28,29,30,31,32,33,34,35,36,37,38,39,40,3] (by kernel_rfl) (by kernel_rfl) (RQ (CG trivial)) ?ak ?hQ1003
 case ak=>
  refine⟨?_,?_,?_,?_,?_,?_,?_,?_,?_,?_,?_,?_,?_,?_,?_,?_,?_,?_,?_,trivial⟩
  ·refine Aa rfl fun σ w1 hC h=> ?_
   have g:σ 1=PQ c 0:=(Ae (h 1 (by decide))).trans rfl
   exact Yk.fieldAt LW g ⟨Ext.refl _,rfl⟩
  ·refine Aa rfl fun σ w1 hC h=> ?_
   have al:=Ae (h 23 (by decide))
   exact Yk.cell1 u5 rfl al (Al (eb hC f) (show(updC y)[0]? =some (B8 (y.kind):Value)from Fd y)) ⟨Ext.refl _,rfl⟩
  ·refine Aa rfl fun σ w1 hC h=> ?_
   have am:=Ae (h 24 (by decide))
   exact Yk.eqI (a:=((y.kind).toNat:Nat)) (b:=(3:Nat)) am rfl (A2 _ _ _ _) ⟨Ext.refl _,rfl⟩
  ·refine Aa rfl fun σ w1 hC h=> ?_
   have an:=Ae (h 25 (by decide))
   exact Yk.move an ⟨Ext.refl _,rfl⟩
  ·refine AY 3 true 26 (G:=(decide (((y.kind).toNat:Nat)=(3)))) rfl rfl (fun x _ (h:x = .bool (decide (((y.kind).toNat:Nat)=(3))))=>gT h) (fun hu_ _=>Bl hu_) fun hG σ w1 hC h=> ?_
   have g:σ 1=PQ c 0:=(Ae (h 1 (by decide))).trans rfl
   exact Yk.fieldAt HU g ⟨Ext.refl _,Bk hG⟩
  ·refine AY 3 true 26 (G:=(decide (((y.kind).toNat:Nat)=(3)))) rfl rfl (fun x _ (h:x = .bool (decide (((y.kind).toNat:Nat)=(3))))=>gT h) (fun hu_ _=>Bl hu_) fun hG σ w1 hC h=> ?_
   have ao:=Ae (h 27 (by decide))
   exact Yk.loadPR (PR.blk (eb hC f) (Fe y) (Ff y) (Ak ao hG)) P8 rfl (At y.old.2) ⟨Ext.refl _,Bk hG⟩
  ·refine AY 3 true 26 (G:=(decide (((y.kind).toNat:Nat)=(3)))) rfl rfl (fun x _ (h:x = .bool (decide (((y.kind).toNat:Nat)=(3))))=>gT h) (fun hu_ _=>Bl hu_) fun hG σ w1 hC h=> ?_
   have ap:=Ae (h 28 (by decide))
   refine Yk.callA1 GZ (Ak ap hG) ((B9 _ y.old).mono ?_)
   rintro e n ⟨rfl,hx⟩
   exact⟨_,rfl,hx,Bk hG⟩
  ·refine AY 3 true 26 (G:=(decide (((y.kind).toNat:Nat)=(3)))) rfl rfl (fun x _ (h:x = .bool (decide (((y.kind).toNat:Nat)=(3))))=>gT h) (fun hu_ _=>Bl hu_) fun hG σ w1 hC h=> ?_
   have aq:=Ae (h 29 (by decide))
   exact Yk.notB (Ak aq hG) ⟨Ext.refl _,Bk hG⟩
  ·refine AY 3 true 26 (G:=(decide (((y.kind).toNat:Nat)=(3)))) rfl rfl (fun x _ (h:x = .bool (decide (((y.kind).toNat:Nat)=(3))))=>gT h) (fun hu_ _=>Bl hu_) fun hG σ w1 hC h=> ?_
   have ar:=Ae (h 30 (by decide))
   exact Yk.move (Ak ar hG) ⟨Ext.refl _,Bk hG⟩
  ·refine AY 8 false 31 (G:=(decide (((y.kind).toNat:Nat)=(3)))&& !(!(Ai y.old))) rfl rfl (fun x _ (h:x=cond ((decide (((y.kind).toNat:Nat)=(3)))) (.bool (!(Ai y.old))) undef)=>D3 h) (fun hu_ _=>Bl hu_) fun hG σ w1 hC h=> ?_
   have g:σ 1=PQ c 0:=(Ae (h 1 (by decide))).trans rfl
   exact Yk.fieldAt LY g ⟨Ext.refl _,Bk hG⟩
  ·refine AY 8 false 31 (G:=(decide (((y.kind).toNat:Nat)=(3)))&& !(!(Ai y.old))) rfl rfl (fun x _ (h:x=cond ((decide (((y.kind).toNat:Nat)=(3)))) (.bool (!(Ai y.old))) undef)=>D3 h) (fun hu_ _=>Bl hu_) fun hG σ w1 hC h=> ?_
   have au:=Ae (h 32 (by decide))
   exact Yk.cell1 DT rfl (Ak au hG) (Al (eb hC f) (show(updC y)[1]? =some (St (y.name):Value)from DI y)) ⟨Ext.refl _,Bk hG⟩
  ·refine AY 8 false 31 (G:=(decide (((y.kind).toNat:Nat)=(3)))&& !(!(Ai y.old))) rfl rfl (fun x _ (h:x=cond ((decide (((y.kind).toNat:Nat)=(3)))) (.bool (!(Ai y.old))) undef)=>D3 h) (fun hu_ _=>Bl hu_) fun hG σ w1 hC h=> ?_
   have av:=Ae (h 33 (by decide))
   exact Yk.eqSt (l:=y.name) (m:=([]:List UInt8)) (.inl rfl) (Ak av hG) (vr (St (([]:List UInt8))) rfl) (decide ((y.name:List UInt8)=(([]:List UInt8):List UInt8))) rfl ⟨Ext.refl _,Bk hG⟩
  ·refine AY 8 false 31 (G:=(decide (((y.kind).toNat:Nat)=(3)))&& !(!(Ai y.old))) rfl rfl (fun x _ (h:x=cond ((decide (((y.kind).toNat:Nat)=(3)))) (.bool (!(Ai y.old))) undef)=>D3 h) (fun hu_ _=>Bl hu_) fun hG σ w1 hC h=> ?_
   have g:σ 1=PQ c 0:=(Ae (h 1 (by decide))).trans rfl
   exact Yk.fieldAt HV g ⟨Ext.refl _,Bk hG⟩
  ·refine AY 8 false 31 (G:=(decide (((y.kind).toNat:Nat)=(3)))&& !(!(Ai y.old))) rfl rfl (fun x _ (h:x=cond ((decide (((y.kind).toNat:Nat)=(3)))) (.bool (!(Ai y.old))) undef)=>D3 h) (fun hu_ _=>Bl hu_) fun hG σ w1 hC h=> ?_
   have aw:=Ae (h 35 (by decide))
   exact Yk.loadPR (PR.blk (eb hC f) (Dk y) (Dl y) (Ak aw hG)) P8 rfl (At y.new.2) ⟨Ext.refl _,Bk hG⟩
  ·refine AY 8 false 31 (G:=(decide (((y.kind).toNat:Nat)=(3)))&& !(!(Ai y.old))) rfl rfl (fun x _ (h:x=cond ((decide (((y.kind).toNat:Nat)=(3)))) (.bool (!(Ai y.old))) undef)=>D3 h) (fun hu_ _=>Bl hu_) fun hG σ w1 hC h=> ?_
   have ax:=Ae (h 36 (by decide))
   refine Yk.callA1 GZ (Ak ax hG) ((B9 _ y.new).mono ?_)
   rintro e n ⟨rfl,hx⟩
   exact⟨_,rfl,hx,Bk hG⟩
  ·refine AY 8 false 31 (G:=(decide (((y.kind).toNat:Nat)=(3)))&& !(!(Ai y.old))) rfl rfl (fun x _ (h:x=cond ((decide (((y.kind).toNat:Nat)=(3)))) (.bool (!(Ai y.old))) undef)=>D3 h) (fun hu_ _=>Bl hu_) fun hG σ w1 hC h=> ?_
   have ay:=Ae (h 34 (by decide))
   have az:=Ae (h 37 (by decide))
   exact Yk.eqBool (a:=decide ((y.name:List UInt8)=(([]:List UInt8):List UInt8))) (b:=Ai y.new) PA (Ak ay hG) (Ak az hG) ⟨Ext.refl _,Bk hG⟩
  ·refine AY 3 true 26 (G:=(decide (((y.kind).toNat:Nat)=(3)))) rfl rfl (fun x _ (h:x = .bool (decide (((y.kind).toNat:Nat)=(3))))=>gT h) (fun hu_ _=>Bl hu_) fun hG σ w1 hC h=> ?_
   have a0:=Ae (h 31 (by decide))
   have a1:=Ae (h 38 (by decide))
   exact Yk.pickOr (Ak a0 hG) (vr (.bool (true)) rfl) (fun hA=>(Ak a1 (Du hG (Bb hA)))) ⟨Ext.refl _,Bk hG⟩
  ·refine Aa rfl fun σ w1 hC h=> ?_
   have a2:=Ae (h 26 (by decide))
   have a3:=Ae (h 39 (by decide))
   exact Yk.pickAnd a2 (fun hA=>(Ak a3 hA)) (vr (.bool (false)) rfl) ⟨Ext.refl _,rfl⟩
  ·refine Aa rfl fun σ w1 hC h=> ?_
   have a4:=Ae (h 40 (by decide))
   exact Yk.assign a4 ⟨Ext.refl _,rfl⟩
 intro a5 bp z he hf
 obtain⟨-,-,-,-,-,-,-,-,-,-,-,-,-,-,-,-,-,-,k3,-⟩:=hf
 obtain⟨i,p,T2,-⟩:=he.hold [(0,_),(1,PQ c 0),(2,NI 0)] ⟨i,rfl,rfl,trivial⟩ rfl
 clear he
 have hE:=hE.trans z
 have f:=eb z f
 have T3:a5 3 = .bool ((decide (((y.kind).toNat:Nat)=(3)))&&((!(Ai y.old))||((decide ((y.name:List UInt8)=(([]:List UInt8):List UInt8)))==(Ai y.new)))):=k3
 clear k3
 refine tN (j _ _ ?_)
 refine AW ((decide (((y.kind).toNat:Nat)=(3)))&&((!(Ai y.old))||((decide ((y.name:List UInt8)=(([]:List UInt8):List UInt8)))==(Ai y.new)))) T3 (fun q=> ?_) (fun q=> ?_)
 ·have h2c:Q3 y=true:=q
  refine sk fun br a7=>(wt (oA rfl (oZ (tN (a7 _ _ (Am (AE (An (Aj (fn:=Tryz.f57) _ rfl [NI 1] (NI 1) rfl ⟨rfl,trivial⟩ ?_)))))))))
  exact⟨by unfold BI;rw[if_neg (by rw[h0c];decide),if_neg (by rw[h1c];decide),if_pos h2c],hE⟩
 have h2c:Q3 y=false:=q
 refine sk fun bs a8=>(wt (oS rfl (Yk.fieldAt LY p (oS rfl (Yk.cell1 DT rfl (vr (PQ c 1) rfl) (Al f (show(updC y)[1]? =some (St (y.name):Value)from DI y)) (oS rfl (Yk.callA1 Jz (vr (St (y.name)) rfl) ((Ia _ y.name hl).mono ?_))))))))
 rintro e bt ⟨rfl,aa⟩
 refine⟨_,rfl,?_⟩
 have hE:=hE.trans aa
 have f:=eb aa f
 refine oS rfl (Yk.notB (vr (.bool (Ap y.name)) rfl) (oM rfl (Ac (PQ c 0) rfl rfl (gT (vr (.bool (!(Ap y.name))) rfl)) (fun hG43=>Yk.fieldAt LW p ⟨rfl,rfl⟩) (Ac (B8 (y.kind)) rfl rfl (gT (vr (.bool (!(Ap y.name))) rfl)) (fun hG44=>Yk.cell1 u5 rfl (Ak (vr (cond ((!(Ap y.name))) (PQ c 0) undef) rfl) hG44) (Al f (show(updC y)[0]? =some (B8 (y.kind):Value)from Fd y)) ⟨rfl,rfl⟩) (Ac (.bool (decide (((y.kind).toNat:Nat)≠(3)))) rfl rfl (gT (vr (.bool (!(Ap y.name))) rfl)) (fun hG45=>Yk.eqI (a:=(((y.kind).toNat:Nat):Int)) (b:=((3:Nat):Int)) (Ak (vr (cond ((!(Ap y.name))) (B8 (y.kind)) undef) rfl) hG45) (vr (B8 (3)) rfl) (BO _ .u8 ((y.kind).toNat) (3)) ⟨rfl,rfl⟩) (Ac (.bool (decide (((y.kind).toNat:Nat)≠(3)))) rfl rfl (gT (vr (.bool (!(Ap y.name))) rfl)) (fun hG46=>Yk.move (Ak (vr (cond ((!(Ap y.name))) (.bool (decide (((y.kind).toNat:Nat)≠(3)))) undef) rfl) hG46) ⟨rfl,rfl⟩) (Ac (PQ c 1) rfl rfl (D3 (vr (cond ((!(Ap y.name))) (.bool (decide (((y.kind).toNat:Nat)≠(3)))) undef) rfl)) (fun hG47=>Yk.fieldAt LY p ⟨rfl,rfl⟩) (Ac (St (y.name)) rfl rfl (D3 (vr (cond ((!(Ap y.name))) (.bool (decide (((y.kind).toNat:Nat)≠(3)))) undef) rfl)) (fun hG48=>Yk.cell1 DT rfl (Ak (vr (cond ((!(Ap y.name))&& !(decide (((y.kind).toNat:Nat)≠(3)))) (PQ c 1) undef) rfl) hG48) (Al f (show(updC y)[1]? =some (St (y.name):Value)from DI y)) ⟨rfl,rfl⟩) (Ac (.bool (decide ((y.name:List UInt8)≠(([]:List UInt8):List UInt8)))) rfl rfl (D3 (vr (cond ((!(Ap y.name))) (.bool (decide (((y.kind).toNat:Nat)≠(3)))) undef) rfl)) (fun hG49=>Yk.eqSt (l:=y.name) (m:=([]:List UInt8)) (.inr rfl) (Ak (vr (cond ((!(Ap y.name))&& !(decide (((y.kind).toNat:Nat)≠(3)))) (St (y.name)) undef) rfl) hG49) (vr (St (([]:List UInt8))) rfl) (decide ((y.name:List UInt8)≠(([]:List UInt8):List UInt8))) rfl ⟨rfl,rfl⟩) (Cv ((decide (((y.kind).toNat:Nat)≠(3)))||(decide ((y.name:List UInt8)≠(([]:List UInt8):List UInt8)))) rfl rfl (gT (vr (.bool (!(Ap y.name))) rfl)) (fun hG50=>Yk.pickOr (Ak (vr (cond ((!(Ap y.name))) (.bool (decide (((y.kind).toNat:Nat)≠(3)))) undef) rfl) hG50) (vr (.bool (true)) rfl) (fun hA=>(Ak (vr (cond ((!(Ap y.name))&& !(decide (((y.kind).toNat:Nat)≠(3)))) (.bool (decide ((y.name:List UInt8)≠(([]:List UInt8):List UInt8)))) undef) rfl) (Du hG50 (Bb hA)))) ⟨rfl,rfl⟩) fun bb51 hbb52=>(oS rfl (Yk.pickAndN (vr (.bool (!(Ap y.name))) rfl) (fun hA=>(Ak (vr (cond ((!(Ap y.name))) (.bool (bb51)) undef) rfl) hA)) (vr (.bool (false)) rfl) fun bb53 hbb54=>(oA rfl (oZ (tN (a8 _ _ ?_))))))))))))))))
 refine AW (bb53) (vr (.bool (bb53)) rfl) (fun r=> ?_) (fun r=> ?_)
 ·subst hbb52 hbb54
  have h3c:Q4 y=true:=r
  refine sk fun bu a9=>(wt (oA rfl (oZ (tN (a9 _ _ (Am (AE (An (Aj (fn:=Tryz.f57) _ rfl [NI 10] (NI 10) rfl ⟨rfl,trivial⟩ ?_)))))))))
  exact⟨by unfold BI;rw[if_neg (by rw[h0c];decide),if_neg (by rw[h1c];decide),if_neg (by rw[h2c];decide),if_pos h3c],hE⟩
 subst hbb52 hbb54
 have h3c:Q4 y=false:=r
 refine Aq (bN (tN (af _ _ (sk fun bv ba=>(wt (oA rfl (oZ (tN (ba _ _ (Am (Aj (fn:=Tryz.f57) _ rfl [NI 0] (NI 0) rfl ⟨rfl,trivial⟩ ?_)))))))))))
 exact⟨by unfold BI;rw[if_neg (by rw[h0c];decide),if_neg (by rw[h1c];decide),if_neg (by rw[h2c];decide),if_neg (by rw[h3c];decide)],hE⟩
open Go.RowKit
set_option maxRecDepth 100000
theorem Mn:∃i z,Tryz.prog.info? 60=some i∧i.size=33∧i.bytes=48∧i.zero=some z∧z.cells.size=33∧∀u∈z.cells.toList,u.oneCell' =true:=Py (by kernel_rfl)
section
variable {A X D R : List Value} {i j : Nat}
theorem Qw(hA:A.length=i)(hX:X.length=33)(hD:D.length=j):((A++X++D++R).drop (i+33)).take j=D:=by
 rw[List.append_assoc,List.drop_left' (by rw[List.length_append,hA,hX]),List.take_left' hD]
theorem Mo(hA:A.length=i)(hD:D.length=j):((A++D++R).drop i).take j=D:=by rw[List.append_assoc,List.drop_left' hA,List.take_left' hD]
theorem PB{C:List Value}{m:Nat}(hm:i≤m)(hC:C.take i=A):C.take m=A++(C.take m).drop i:=by rw[←hC,show C.take i=(C.take m).take i by rw[List.take_take,Nat.min_eq_left hm],List.take_append_drop]
theorem PC(hA:A.length=i)(hX:X.length=33){Y:List Value}:(A++X++R).take i++Y++(A++X++R).drop (i+1*33)=A++Y++R:=by rw[List.drop_left' (by rw[List.length_append];omega),List.append_assoc A X R,List.take_left' hA]
theorem Lk{w:World}{a b:Nat}{v x:Value}{lo' n' c' lo n c:Nat}(hv:SB a 33 lo' n' c' v)(hx:SB b 33 lo n c x)(hne:a≠b){A B:List Value}{tA tB:TypeId}(hA:w.heap[a]? =some (.cells A.toArray tA (0,0)))(hB:w.heap[b]? =some (.cells B.toArray tB (0,0)))(h0:B≠ []):
  (callFunc 102 #[v,x]).run Tryz.prog w = .ok (.value (.bool false)) w:=by
 rw[run_callFunc_extern (e:=Extern.SlicesOverlaps.overlaps #[33,33] #[4]) Tryz.func102 (by kernel_rfl) (by kernel_rfl) (by kernel_rfl) (by kernel_rfl),Je (e:=60) rfl (fun _=>by kernel_rfl) hv hx hne hA hB h0]
 rfl
theorem NY(hA:A.length=i):(A++X++D++R).take i=A:=by rw[List.append_assoc,List.append_assoc,List.take_left' hA]
theorem JH(h:(A++D).length=i):(A++D++R).take i=A++D:=List.take_left' h
end
set_option maxHeartbeats 1600000
theorem MT(w:World)(v:Value)(g c i j:Nat)(A X D R:List Value)(hA:A.length=i*33)(hX:X.length=33)(hD:D.length=j*33)(hv:SB g 33 0 (i+1+j) c v)(hC:w.heap[g]? =some (.cells (A++X++D++R).toArray 60 (0,0)))(hL:(A++X++D++R).length=c*33)(hc:i+1+j≤c)(hm:c≤maxLen)(h1:∀u∈D,u.oneCell' =true):
  Calls Tryz.prog 91 #[v,NI i,NI (i+1)] w fun e w' =>∃R',e = .returned (.slice (some ⟨g,0,none⟩) (i+j) c)∧w'.heap[g]? =some (.cells (A++D++R').toArray 60 (0,0))∧(A++D++R').length=c*33∧w.grownBy w' (some g):=by
 obtain⟨ri,rz,ri1,ri2,ri3,ri4,ri5,ri6⟩:=Mn
 have hgr:w.grownBy w (some g):=⟨rfl,rfl,rfl,Nat.le_refl _,fun _ _ _=>rfl⟩
 have hgl:=(bl hC)
 unfold maxLen at hm
 refine As (args:= [v,NI i,NI (i+1)]) Tryz.func91 rfl 33 rfl (Nat.le_of_ble_eq_true rfl) ?_
 intro t hb
 have k:t 0=(v:Value):=hb.get 0
 have n:t 1=(NI i:Value):=hb.get 1
 have p:t 2=(NI (i+1):Value):=hb.get 2
 clear hb
 refine sk fun K1 ai=>(wt (oA rfl (oZ (tN (ai _ _ (sk fun K2 aj=>(wt (oM rfl (oM rfl (oM rfl (oM rfl (oS rfl (Yk.lenSB D5 (SB.of hv k) (oS rfl (Yk.sliceSB3 (l:=i) (r:=i+1) (m:=i+1+j) D5 Iw (SB.of hv k) n p (vr (NI (i+1+j)) rfl) (by omega) (by omega) (by omega) fun v3 ab=> ?_)))))))))))))))
 have ab:SB g 33 (i) (i+1-(i)) (i+1+j-(i)) v3:=(SB.eq ab (by omega) (by omega) (by omega))
 refine oZ (tN (aj _ _ (sk fun K5 al=>(sk fun K6 am=>(wt (oM rfl (oM rfl (oS rfl (Yk.eqI (a:=(i:Nat)) (b:=(i+1:Nat)) n p (A2 _ _ _ _) (oZ (tN (am _ _ (AH (vr (.bool (false)) (congrArg Value.bool (decide_eq_false (by omega)))) (Aq (tN (al _ _ (sk fun K7 an=>(wt (oM rfl ?_)))))))))))))))))))
 refine oS rfl (Yk.lenSB D5 (SB.of hv k) (oA rfl (oZ (tN (an _ _ (sk fun K8 ao=> ?_))))))
 refine Cw 6 [Is (v),Is (NI i),fun x _=>SB g 33 (0) (i) (c) x,Is (v),Is (NI (i+1)),fun x _=>SB g 33 (i+1) (j) (c-(i+1)) x] (by kernel_rfl) [20,21,22,23,24,25,26,0] (by kernel_rfl) (by kernel_rfl) (by kernel_rfl) (by kernel_rfl) rfl rfl (DG ⟨(fun _ _ _ h _=>h),(DG ⟨(fun _ _ _ h _=>h),trivial⟩)⟩) ?ap ?hQ1005
 case ap=>
  refine⟨?_,?_,?_,?_,?_,?_,?_,?_,trivial⟩
  ·refine Ax (Aa rfl fun σ w1 hC h=> ?_)
   have y:=(Ae (h 0 (by decide))).trans k
   exact Yk.move y ⟨Ext.refl _,rfl⟩
  ·refine Ax (Aa rfl fun σ w1 hC h=> ?_)
   have e1:=(Ae (h 1 (by decide))).trans n
   exact Yk.move e1 ⟨Ext.refl _,rfl⟩
  ·refine Ax (Aa rfl fun σ w1 hC h=> ?_)
   have ar:=Ae (h 20 (by decide))
   have au:=Ae (h 21 (by decide))
   exact Yk.sliceSB D5 Iw (a:=none) (b:=some _) (SB.of hv ar) (0) (i) (.inl ⟨rfl,rfl⟩) (.inr ⟨_,congrArg some au⟩) (by omega) (by omega) fun v h=>⟨Ext.refl _,(SB.eq h (by omega) (by omega) (by omega))⟩
  ·refine Ax (Aa rfl fun σ w1 hC h=> ?_)
   have y:=(Ae (h 0 (by decide))).trans k
   exact Yk.move y ⟨Ext.refl _,rfl⟩
  ·refine Ax (Aa rfl fun σ w1 hC h=> ?_)
   have e2:=(Ae (h 2 (by decide))).trans p
   exact Yk.move e2 ⟨Ext.refl _,rfl⟩
  ·refine Ax (Aa rfl fun σ w1 hC h=> ?_)
   have aw:=Ae (h 23 (by decide))
   have ax:=Ae (h 24 (by decide))
   exact Yk.sliceSB D5 Iw (a:=some _) (b:=none) (SB.of hv aw) (i+1) (i+1+j) (.inr ⟨_,congrArg some ax⟩) (.inl ⟨rfl,rfl⟩) (by omega) (by omega) fun v h=>⟨Ext.refl _,(SB.eq h (by omega) (by omega) (by omega))⟩
  ·exact trivial
  ·exact trivial
 intro s z ac he hf
 obtain⟨-,-,k22,-,-,k25,-⟩:=hf
 obtain⟨n,p,T6,T7,be,-⟩:=he.hold [(1,_),(2,_),(6,(Value.slice none 0 0)),(7,NI (i+1+j)),(16,_)] ⟨n,p,rfl,rfl,(congrArg Value.bool (decide_eq_false (by omega))),trivial⟩ rfl
 clear he
 have hC:=eb ac hC
 have hgr:w.grownBy z (some g):=Ab hgr ac.grown (fun _ e=>by cases e)
 have k22:(fun x _=>SB g 33 (0) (i) (c) x) (s 22) z:=k22
 obtain⟨bf,ad⟩:∃v,s 22=v:=⟨_,rfl⟩
 rw[ad]at k22
 have az:=k22;clear k22
 have k25:(fun x _=>SB g 33 (i+1) (j) (c-(i+1)) x) (s 25) z:=k25
 obtain⟨bg,ae⟩:∃v,s 25=v:=⟨_,rfl⟩
 rw[ae]at k25
 have a0:=k25;clear k25
 refine oS rfl (Yk.appendSB D5 ri1 ri2 (SB.of az ad) (by omega) hC (SB.src (SB.of a0 ae) (j*33) (if hj:j=0 then .inr (by omega)else .inl (by omega)) hC (by rw[show(i+1)*33=i*33+33 by omega];exact Qw hA hX hD)) (hD) (h1) (by omega) (by rw[hL];omega) fun af a1 a2 bh=> ?_)
 have hgr:w.grownBy af (some g):=Ab hgr a2 (fun _ e=> .inl e)
 clear hC
 obtain⟨T,hT⟩:∃T,T=(A++X++D++R).drop (i*33+j*33):=⟨_,rfl⟩
 have hLT:(A++D++T).length=c*33:=by rw[hT];simp only[List.length_append,List.length_drop]at hL ⊢;omega
 have hC:af.heap[g]? =some (.cells (A++D++T).toArray 60 (0,0)):=AG a1 (by rw[hT,NY hA])
 have bi:=bl hC
 obtain⟨q,f⟩:∃v,v=Value.slice (some ⟨g,0,none⟩) (i+(j)) (c):=⟨_,rfl⟩
 rw[←f]
 replace f:SB g 33 0 (i+j) (c) q:=f▸(SB.first _ _ _ _).eq rfl (by omega) rfl
 refine oA rfl (oZ (tN (ao _ _ (sk fun bj a3=>(wt (oM rfl (oM rfl (oS rfl (Yk.lenSB D5 (SB.of f (vr q rfl)) (oM rfl (oS rfl (Yk.sliceSB D5 Iw (a:=some _) (b:=some _) (SB.of f (vr q rfl)) (i+j) (i+1+j) (.inr ⟨_,congrArg some (vr (NI (i+j)) rfl)⟩) (.inr ⟨_,congrArg some T7⟩) (by omega) (by omega) fun ag aa=> ?_))))))))))))
 have aa:SB g 33 (i+j) (1) (c-(i+j)) ag:=(SB.eq aa (by omega) (by omega) (by omega))
 refine oS rfl (Yk.clearSB D5 ri1 ri4 ri5 (SB.of aa (vr ag rfl)) (by omega) (by omega) hC (Ko ri6 _) (by rw[hLT];omega) fun ah Z30 hZ31 a4 a5 bk=> ?_)
 have hgr:w.grownBy ah (some g):=Ab hgr a5 (fun _ e=> .inl e)
 clear hC
 obtain⟨U,hU⟩:∃U,U=Z30++(A++D++T).drop ((i+j)*33+1*33):=⟨_,rfl⟩
 have hLU:(A++D++U).length=c*33:=by rw[hU];simp only[List.length_append,List.length_drop]at hLT ⊢;omega
 have hC:ah.heap[g]? =some (.cells (A++D++U).toArray 60 (0,0)):=AG a4 (by rw[hU,JH (by rw[List.length_append];omega),List.append_assoc (A++D)])
 have bm:=bl hC
 refine oZ (tN (a3 _ _ (sk fun bn a6=>(wt (oM rfl (oA rfl (oZ (tN (a6 _ _ (Am (Aj (fn:=Tryz.f91) _ rfl [q] (q) rfl ⟨rfl,trivial⟩ ?_)))))))))))
 obtain⟨o,rfl,ho⟩:=f
 obtain rfl:o=0:=by rw[ho (by omega),Nat.zero_mul]
 exact⟨_,rfl,hC,hLU,hgr⟩

theorem MU(w:World)(v v2:Value)(g b c i j:Nat)(TX:TypeId)(A X D R:List Value)(hA:A.length=i*33)(hXl:X.length=33)(hD:D.length=j*33)(hv:SB g 33 0 (i+j) c v)(hC:w.heap[g]? =some (.cells (A++D++R).toArray 60 (0,0)))(hL:(A++D++R).length=c*33)(hc:i+j≤c)(hm:c≤maxLen)(hj:0<j)(h1:∀u∈D,u.oneCell' =true)(hX1:∀u∈X,u.oneCell' =true) 
  (hv2:SB b 33 0 1 1 v2) (hX:w.heap[b]? =some (.cells X.toArray TX (0,0))) (hne:b≠g) (hs:i+j≤1000):
  Calls Tryz.prog 92 #[v,NI i,v2] w fun e w' =>∃g' c' R',e = .returned (.slice (some ⟨g',0,none⟩) (i+1+j) c')∧w'.heap[g']? =some (.cells (A++X++D++R').toArray 60 (0,0))∧(A++X++D++R').length=c' *33∧i+1+j≤c' ∧c' ≤2^63-1∧w.grownBy w' (some g)∧(g' =g∨w.heap.size≤g'):=by
 obtain⟨ri,rz,ri1,ri2,ri3,ri4,ri5,ri6⟩:=Mn
 have hgr:w.grownBy w (some g):=⟨rfl,rfl,rfl,Nat.le_refl _,fun _ _ _=>rfl⟩
 have hgl:=(bl hC)
 unfold maxLen at hm
 refine As (args:= [v,NI i,v2]) Tryz.func92 rfl 95 rfl (Nat.le_of_ble_eq_true rfl) ?_
 intro af hb
 have l:af 0=(v:Value):=hb.get 0
 have f:af 1=(NI i:Value):=hb.get 1
 have q:af 2=(v2:Value):=hb.get 2
 clear hb
 refine sk fun K1 bb=>(wt (oA rfl (oZ (tN (bb _ _ (sk fun K2 bc=>(wt (oM rfl (oM rfl (oS rfl (Yk.sliceSB D5 Iw (a:=some _) (b:=none) (SB.of hv l) (i) (i+j) (.inr ⟨_,congrArg some f⟩) (.inl ⟨rfl,rfl⟩) (by omega) (by omega) fun v3 av=> ?_)))))))))))
 have av:SB g 33 (i) (i+j-(i)) (c-(i)) v3:=(SB.eq av (by omega) (by omega) (by omega))
 refine oZ (tN (bc _ _ (sk fun K5 be=>(wt (oM rfl (oS rfl (Yk.lenSB D5 (SB.of hv2 q) (oA rfl (oZ (tN (be _ _ (sk fun K6 bf=>(sk fun K7 bg=>(wt (oM rfl (oS rfl (Yk.eqI (a:=(1:Nat)) (b:=(0:Nat)) rfl rfl (A2 _ _ _ _) (oZ (tN (bg _ _ ?_))))))))))))))))))))
 refine AH (vr (.bool (false)) (congrArg Value.bool (decide_eq_false (by omega)))) (Aq (tN (bf _ _ (sk fun K8 aw=>(wt (oM rfl (oS rfl (Yk.lenSB D5 (SB.of hv l) (oA rfl (oZ ?_))))))))))
 by_cases hroom:i+j+1≤c
 ·refine tN (aw _ _ (sk fun K9 bh=>(sk fun c0 bi=>(wt (oM rfl (oM rfl (oS rfl (Yk.eqI (a:=(i:Nat)) (b:=(i+j:Nat)) f rfl (A2 _ _ _ _) (oZ (tN (bi _ _ (AH (vr (.bool (false)) (congrArg Value.bool (decide_eq_false (by omega)))) (Aq (tN (bh _ _ (sk fun c1 bj=>(sk fun c2 bk=>(wt (oM rfl ?_)))))))))))))))))))
  refine oM rfl (oS rfl (Yk.bin (xv:=NI (i+j)) (yv:=NI 1) rfl rfl rfl (AA _ _ _ (by omega)) (oM rfl (oS rfl (Yk.capSB D5 (SB.of hv l) (oS rfl (Yk.eqI (a:=((i+j)+(1):Nat)) (b:=(c:Nat)) rfl rfl (BA _ _ _ _) (oZ (tN (bk _ _ (AH (vr (.bool (false)) (congrArg Value.bool (decide_eq_false (by omega)))) (Aq (tN (bj _ _ (sk fun c3 bm=>(wt (oM rfl (oM rfl (oM rfl (oS rfl (Yk.bin (xv:=NI (i+j)) (yv:=NI 1) rfl rfl rfl (AA _ _ _ (by omega)) ?_)))))))))))))))))))))
  refine oS rfl (Yk.sliceSB D5 Iw (a:=none) (b:=some _) (SB.of hv l) (0) ((i+j)+(1)) (.inl ⟨rfl,rfl⟩) (.inr ⟨_,congrArg some (vr (NI ((i+j)+(1))) rfl)⟩) (by omega) (by omega) fun n r=> ?_)
  have r:SB g 33 (0) (i+1+j) (c) n:=(SB.eq r (by omega) (by omega) (by omega))
  refine oA rfl (oZ (tN (bm _ _ (sk fun c4 c5=>(sk fun c6 bn=>(wt (oM rfl (oM rfl (oM rfl (oM rfl (oS rfl (Yk.bin (xv:=NI i) (yv:=NI 1) f rfl rfl (AA _ _ _ (by omega)) (oS rfl (Yk.sliceSB D5 Iw (a:=some _) (b:=none) (SB.of r (vr n rfl)) ((i)+(1)) (i+1+j) (.inr ⟨_,congrArg some (vr (NI ((i)+(1))) rfl)⟩) (.inl ⟨rfl,rfl⟩) (by omega) (by omega) fun ax ag=> ?_))))))))))))))
  have ag:SB g 33 (i+1) (j) (c-(i+1)) ax:=(SB.eq ag (by omega) (by omega) (by omega))
  refine oS rfl (Yk.extern2 rfl rfl (Lk (SB.of hv2 q) (SB.of ag (vr ax rfl)) hne hX hC (by intro e;rw[e]at hL;simp at hL;omega)) (oS rfl (Yk.notB (vr (.bool (false)) rfl) (oZ (tN (bn _ _ (wpF_true (vr (.bool (true)) rfl) (sk fun c7 bo=> ?_))))))))
  refine Cw 8 [Is (n),Is (NI i),Is (NI 1),Is (NI ((i)+(1))),fun x _=>SB g 33 (i+1) (j) (c-(i+1)) x,Is (n),Is (NI i),fun x _=>SB g 33 (i) (j+1) (c-i) x] (by kernel_rfl) [69,70,71,72,73,74,75,76,77] (by kernel_rfl) (by kernel_rfl) (by kernel_rfl) (by kernel_rfl) rfl rfl (EJ ⟨(fun _ _ _ h _=>h),(DG ⟨(fun _ _ _ h _=>h),trivial⟩)⟩) ?bp ?hQ1015
  case bp=>
   refine⟨?_,?_,?_,?_,?_,?_,?_,?_,?_,trivial⟩
   ·refine Ax (Aa rfl fun σ w1 hC h=> ?_)
    have e0:σ 0=n:=(Ae (h 0 (by decide))).trans rfl
    exact Yk.move e0 ⟨Ext.refl _,rfl⟩
   ·refine Ax (Aa rfl fun σ w1 hC h=> ?_)
    have s:=(Ae (h 1 (by decide))).trans f
    exact Yk.move s ⟨Ext.refl _,rfl⟩
   ·refine Ax (Aa rfl fun σ w1 hC h=> ?_)
    have e7:σ 7=NI 1:=(Ae (h 7 (by decide))).trans rfl
    exact Yk.move e7 ⟨Ext.refl _,rfl⟩
   ·refine Ax (Aa rfl fun σ w1 hC h=> ?_)
    have bq:=Ae (h 70 (by decide))
    have br:=Ae (h 71 (by decide))
    exact Yk.bin (xv:=NI i) (yv:=NI 1) bq br rfl (AA _ _ _ (by omega)) ⟨Ext.refl _,rfl⟩
   ·refine Ax (Aa rfl fun σ w1 hC h=> ?_)
    have bs:=Ae (h 69 (by decide))
    have bt:=Ae (h 72 (by decide))
    exact Yk.sliceSB D5 Iw (a:=some _) (b:=none) (SB.of r bs) ((i)+(1)) (i+1+j) (.inr ⟨_,congrArg some bt⟩) (.inl ⟨rfl,rfl⟩) (by omega) (by omega) fun v h=>⟨Ext.refl _,(SB.eq h (by omega) (by omega) (by omega))⟩
   ·refine Ax (Aa rfl fun σ w1 hC h=> ?_)
    have e0:σ 0=n:=(Ae (h 0 (by decide))).trans rfl
    exact Yk.move e0 ⟨Ext.refl _,rfl⟩
   ·refine Ax (Aa rfl fun σ w1 hC h=> ?_)
    have s:=(Ae (h 1 (by decide))).trans f
    exact Yk.move s ⟨Ext.refl _,rfl⟩
   ·refine Ax (Aa rfl fun σ w1 hC h=> ?_)
    have bu:=Ae (h 74 (by decide))
    have bv:=Ae (h 75 (by decide))
    exact Yk.sliceSB D5 Iw (a:=some _) (b:=none) (SB.of r bu) (i) (i+1+j) (.inr ⟨_,congrArg some bv⟩) (.inl ⟨rfl,rfl⟩) (by omega) (by omega) fun v h=>⟨Ext.refl _,(SB.eq h (by omega) (by omega) (by omega))⟩
   ·exact trivial
  intro ac ai aj he hf
  obtain⟨-,-,-,-,k73,-,-,k76,-⟩:=hf
  obtain⟨l,f,q,T6,T7,T8,b0,b1,b2,c8,-⟩:=he.hold [(0,n),(1,_),(2,_),(6,(Value.slice none 0 0)),(7,NI 1),(8,NI (i+j)),(16,_),(22,_),(31,_),(68, .bool (true))] ⟨rfl,f,q,rfl,rfl,rfl,(congrArg Value.bool (decide_eq_false (by omega))),(congrArg Value.bool (decide_eq_false (by omega))),(congrArg Value.bool (decide_eq_false (by omega))),rfl,trivial⟩ rfl
  clear he
  have hC:=eb aj hC
  have hgr:w.grownBy ai (some g):=Ab hgr aj.grown (fun _ e=>by cases e)
  have hX:=eb aj hX
  have k73:(fun x _=>SB g 33 (i+1) (j) (c-(i+1)) x) (ac 73) ai:=k73
  obtain⟨c9,ay⟩:∃v,ac 73=v:=⟨_,rfl⟩
  rw[ay]at k73
  have b3:=k73;clear k73
  have k76:(fun x _=>SB g 33 (i) (j+1) (c-i) x) (ac 76) ai:=k76
  obtain⟨da,az⟩:∃v,ac 76=v:=⟨_,rfl⟩
  rw[az]at k76
  have b4:=k76;clear k76
  refine oS rfl (Yk.copySB D5 Iw (SB.of b3 ay) (by omega) hC (j) (SB.src (SB.of b4 az) (j*33) (.inl (by omega)) hC (Mo hA hD)) (by simp only[Nat.min_def];split <;> omega) (hD) (h1) (by rw[hL];omega) fun a0 b5 a1 db=> ?_)
  have hgr:w.grownBy a0 (some g):=Ab hgr a1 (fun _ e=> .inl e)
  have hX:=kb a1 hX (by omega)
  clear hC
  obtain⟨T,hT⟩:∃T,T=(A++D++R).drop ((i+1)*33+j*33):=⟨_,rfl⟩
  obtain⟨Y0,hY0⟩:∃Y0,Y0=((A++D++R).take ((i+1)*33)).drop (i*33):=⟨_,rfl⟩
  have hY0l:Y0.length=33:=by rw[hY0,List.length_drop,List.length_take,hL];omega
  have hLT:(A++Y0++(D++T)).length=c*33:=by rw[hT];simp only[List.length_append,List.length_drop]at hL ⊢;omega
  have hC:a0.heap[g]? =some (.cells (A++Y0++(D++T)).toArray 60 (0,0)):=AG b5 (by rw[hT,hY0,←PB (C:=A++D++R) (m:=(i+1)*33) (by omega) (by rw[List.append_assoc,List.take_left' hA]),List.append_assoc])
  have dc:=bl hC
  refine oZ (tN (bo _ _ (sk fun dd b6=>(wt (oM rfl (oM rfl (oS rfl (Yk.sliceSB D5 Iw (a:=some _) (b:=none) (SB.of r l) (i) (i+1+j) (.inr ⟨_,congrArg some f⟩) (.inl ⟨rfl,rfl⟩) (by omega) (by omega) fun a2 ak=> ?_))))))))
  have ak:SB g 33 (i) (j+1) (c-i) a2:=(SB.eq ak (by omega) (by omega) (by omega))
  refine oM rfl ?_
  refine oS rfl (Yk.copySB D5 Iw (SB.of ak (vr a2 rfl)) (by omega) hC (1) (SB.src (SB.of hv2 q) 33 (.inl (by omega)) hX (by rw[Nat.zero_mul,List.drop_zero,List.take_of_length_le (by omega)])) (by simp only[Nat.min_def];split <;> omega) (by omega) (hX1) (by rw[hLT];omega) fun a3 b7 a4 de=> ?_)
  have hgr:w.grownBy a3 (some g):=Ab hgr a4 (fun _ e=> .inl e)
  have hX:=kb a4 hX (by omega)
  clear hC
  have hLF:(A++X++D++T).length=c*33:=by simp only[List.length_append]at hLT ⊢;omega
  have hC:a3.heap[g]? =some (.cells (A++X++D++T).toArray 60 (0,0)):=AG b7 (by rw[PC hA hY0l,List.append_assoc (A++X)])
  have df:=bl hC
  refine oZ (tN (b6 _ _ (sk fun dg b8=>(wt (oM rfl (oA rfl (oZ (tN (b8 _ _ (Am (An (Aj (fn:=Tryz.f92) _ rfl [n] (n) rfl ⟨l,trivial⟩ ?_))))))))))))
  obtain⟨o,rfl,ho⟩:=r
  obtain rfl:o=0:=by rw[ho (by omega),Nat.zero_mul]
  exact⟨_,_,_,rfl,hC,hLF,(by omega),(by omega),hgr, .inl rfl⟩
 refine tN (aw _ _ (sk fun dh b9=>(sk fun di ca=>(wt (oM rfl (oM rfl (oS rfl (Yk.eqI (a:=(i:Nat)) (b:=(i+j:Nat)) f rfl (A2 _ _ _ _) (oZ (tN (ca _ _ (AH (vr (.bool (false)) (congrArg Value.bool (decide_eq_false (by omega)))) (Aq (tN (b9 _ _ (sk fun dj dk=>(sk fun dl cb=>(wt (oM rfl ?_)))))))))))))))))))
 refine oM rfl (oS rfl (Yk.bin (xv:=NI (i+j)) (yv:=NI 1) rfl rfl rfl (AA _ _ _ (by omega)) (oM rfl (oS rfl (Yk.capSB D5 (SB.of hv l) (oS rfl (Yk.eqI (a:=((i+j)+(1):Nat)) (b:=(c:Nat)) rfl rfl (BA _ _ _ _) (oZ (tN (cb _ _ (wpF_true (vr (.bool (true)) (congrArg Value.bool (decide_eq_true (by omega)))) (sk fun dm cc=>(wt (oM rfl (oM rfl (oS rfl (Yk.sliceSB D5 Iw (a:=none) (b:=some _) (SB.of hv l) (0) (i) (.inl ⟨rfl,rfl⟩) (.inr ⟨_,congrArg some f⟩) (by omega) (by omega) fun a5 al=> ?_)))))))))))))))))
 have al:SB g 33 (0) (i) (c) a5:=(SB.eq al (by omega) (by omega) (by omega))
 refine oM rfl (oM rfl (oS rfl (Yk.bin (xv:=NI (i+j)) (yv:=NI 1) rfl rfl rfl (AA _ _ _ (by omega)) (oM rfl (oS rfl (Yk.bin (xv:=NI ((i+j)+(1))) (yv:=NI i) rfl f rfl (B5 _ _ _ (by omega) (by omega)) (oS rfl (Yk.appendMakeSB (m:=((i+j)+(1))-(i)) D5 Li ri1 ri4 ri2 ri5 (by decide) (SB.of al (vr a5 rfl)) (by omega) hC (vr (NI (((i+j)+(1))-(i))) rfl) (by omega) (by omega) (by rw[hL];omega) (by rw[ri3];omega) (by unfold maxLen;omega) fun p am t Z55 an hm57 hm58 hZ59 k ao dn=> ?_))))))))
 have dp:=Bc (bl hC) an
 have dq:=Bc (bl hX) an
 have hC:=eb ao hC
 have hgr:w.grownBy am (some g):=Ab hgr ao.grown (fun _ e=>by cases e)
 have hX:=eb ao hX
 have k:am.heap[p]? =some (.cells (A++Z55).toArray 60 (0,0)):=AG k (by rw[List.append_assoc,List.take_left' hA])
 have dr:p<am.heap.size:=by omega
 obtain⟨y,z⟩:∃v,v=Value.slice (some ⟨p,0,none⟩) (i+(((i+j)+(1))-(i))) t:=⟨_,rfl⟩
 rw[←z]
 replace z:SB p 33 0 (i+1+j) (t) y:=z▸(SB.first _ _ _ _).eq rfl (by omega) rfl
 refine oA rfl (oZ ?_)
 unfold maxLen at hm57
 refine tN (cc _ _ (sk fun ds cd=>(wt (oM rfl (oM rfl (oS rfl (Yk.sliceSB D5 Iw (a:=some _) (b:=none) (SB.of z (vr y rfl)) (i) (i+1+j) (.inr ⟨_,congrArg some f⟩) (.inl ⟨rfl,rfl⟩) (by omega) (by omega) fun a6 ap=> ?_)))))))
 have ap:SB p 33 (i) (j+1) (t-i) a6:=(SB.eq ap (by omega) (by omega) (by omega))
 refine oM rfl ?_
 refine oS rfl (Yk.copySB D5 Iw (SB.of ap (vr a6 rfl)) (by omega) k (1) (SB.src (SB.of hv2 q) 33 (.inl (by omega)) hX (by rw[Nat.zero_mul,List.drop_zero,List.take_of_length_le (by omega)])) (by simp only[Nat.min_def];split <;> omega) (by omega) (hX1) (by rw[List.length_append,hA,hZ59];omega) fun a7 ce aq dt=> ?_)
 have hC:=kb aq hC (by omega)
 have hgr:w.grownBy a7 (some g):=Ab hgr aq (fun _ e=> .inr (by cases e;omega))
 have hX:=kb aq hX (by omega)
 clear k
 obtain⟨T,hT⟩:∃T,T=(A++Z55).drop (i*33+1*33):=⟨_,rfl⟩
 have hLT:(A++X++T).length=t*33:=by rw[hT];simp only[List.length_append,List.length_drop];omega
 have k:a7.heap[p]? =some (.cells (A++X++T).toArray 60 (0,0)):=AG ce (by rw[hT,List.take_left' hA])
 have du:=bl k
 refine oZ (tN (cd _ _ (sk fun dv cf=> ?_)))
 refine Cw 8 [Is (y),Is (NI i),Is (NI 1),Is (NI ((i)+(1))),fun x _=>SB p 33 (i+1) (j) (t-(i+1)) x,Is (v),Is (NI i),fun x _=>SB g 33 (i) (j) (c-i) x] (by kernel_rfl) [46,47,48,49,50,51,52,53,54] (by kernel_rfl) (by kernel_rfl) (by kernel_rfl) (by kernel_rfl) rfl rfl (EJ ⟨(fun _ _ _ h _=>h),(DG ⟨(fun _ _ _ h _=>h),trivial⟩)⟩) ?cg ?hQ2011
 case cg=>
  refine⟨?_,?_,?_,?_,?_,?_,?_,?_,?_,trivial⟩
  ·refine Ax (Aa rfl fun σ w1 hC h=> ?_)
   have e9:σ 9=y:=(Ae (h 9 (by decide))).trans rfl
   exact Yk.move e9 ⟨Ext.refl _,rfl⟩
  ·refine Ax (Aa rfl fun σ w1 hC h=> ?_)
   have s:=(Ae (h 1 (by decide))).trans f
   exact Yk.move s ⟨Ext.refl _,rfl⟩
  ·refine Ax (Aa rfl fun σ w1 hC h=> ?_)
   have e7:σ 7=NI 1:=(Ae (h 7 (by decide))).trans rfl
   exact Yk.move e7 ⟨Ext.refl _,rfl⟩
  ·refine Ax (Aa rfl fun σ w1 hC h=> ?_)
   have ci:=Ae (h 47 (by decide))
   have cj:=Ae (h 48 (by decide))
   exact Yk.bin (xv:=NI i) (yv:=NI 1) ci cj rfl (AA _ _ _ (by omega)) ⟨Ext.refl _,rfl⟩
  ·refine Ax (Aa rfl fun σ w1 hC h=> ?_)
   have ck:=Ae (h 46 (by decide))
   have cl:=Ae (h 49 (by decide))
   exact Yk.sliceSB D5 Iw (a:=some _) (b:=none) (SB.of z ck) ((i)+(1)) (i+1+j) (.inr ⟨_,congrArg some cl⟩) (.inl ⟨rfl,rfl⟩) (by omega) (by omega) fun v h=>⟨Ext.refl _,(SB.eq h (by omega) (by omega) (by omega))⟩
  ·refine Ax (Aa rfl fun σ w1 hC h=> ?_)
   have e0:=(Ae (h 0 (by decide))).trans l
   exact Yk.move e0 ⟨Ext.refl _,rfl⟩
  ·refine Ax (Aa rfl fun σ w1 hC h=> ?_)
   have s:=(Ae (h 1 (by decide))).trans f
   exact Yk.move s ⟨Ext.refl _,rfl⟩
  ·refine Ax (Aa rfl fun σ w1 hC h=> ?_)
   have cm:=Ae (h 51 (by decide))
   have cn:=Ae (h 52 (by decide))
   exact Yk.sliceSB D5 Iw (a:=some _) (b:=none) (SB.of hv cm) (i) (i+j) (.inr ⟨_,congrArg some cn⟩) (.inl ⟨rfl,rfl⟩) (by omega) (by omega) fun v h=>⟨Ext.refl _,(SB.eq h (by omega) (by omega) (by omega))⟩
  ·exact trivial
 intro ad ar ae he hf
 obtain⟨-,-,-,-,k50,-,-,k53,-⟩:=hf
 obtain⟨l,f,q,T6,T7,T8,T9,b0,b1,b2,-⟩:=he.hold [(0,_),(1,_),(2,_),(6,(Value.slice none 0 0)),(7,NI 1),(8,NI (i+j)),(9,y),(16,_),(22,_),(31,_)] ⟨l,f,q,rfl,rfl,rfl,rfl,(congrArg Value.bool (decide_eq_false (by omega))),(congrArg Value.bool (decide_eq_false (by omega))),(congrArg Value.bool (decide_eq_true (by omega))),trivial⟩ rfl
 clear he
 have hC:=eb ae hC
 have hgr:w.grownBy ar (some g):=Ab hgr ae.grown (fun _ e=>by cases e)
 have hX:=eb ae hX
 have k:=eb ae k
 have k50:(fun x _=>SB p 33 (i+1) (j) (t-(i+1)) x) (ad 50) ar:=k50
 obtain⟨dw,a8⟩:∃v,ad 50=v:=⟨_,rfl⟩
 rw[a8]at k50
 have cp:=k50;clear k50
 have k53:(fun x _=>SB g 33 (i) (j) (c-i) x) (ad 53) ar:=k53
 obtain⟨dx,a9⟩:∃v,ad 53=v:=⟨_,rfl⟩
 rw[a9]at k53
 have cq:=k53;clear k53
 refine oS rfl (Yk.copySB D5 Iw (SB.of cp a8) (by omega) k (j) (SB.src (SB.of cq a9) (j*33) (.inl (by omega)) hC (Mo hA hD)) (by simp only[Nat.min_def];split <;> omega) (hD) (h1) (by rw[hLT];omega) fun ba cr au dy=> ?_)
 have hC:=kb au hC (by omega)
 have hgr:w.grownBy ba (some g):=Ab hgr au (fun _ e=> .inr (by cases e;omega))
 have hX:=kb au hX (by omega)
 clear k
 obtain⟨U,hU⟩:∃U,U=(A++X++T).drop ((i+1)*33+j*33):=⟨_,rfl⟩
 have hLU:(A++X++D++U).length=t*33:=by rw[hU];simp only[List.length_append,List.length_drop]at hLT ⊢;omega
 have k:ba.heap[p]? =some (.cells (A++X++D++U).toArray 60 (0,0)):=AG cr (by rw[hU,JH (by rw[List.length_append];omega)])
 have dz:=bl k
 refine oZ (tN (cf _ _ (sk fun d0 cs=>(wt (oM rfl (oA rfl (oZ (tN (cs _ _ (Am (An (Aj (fn:=Tryz.f92) _ rfl [y] (y) rfl ⟨T9,trivial⟩ ?_))))))))))))
 obtain⟨o,rfl,ho⟩:=z
 obtain rfl:o=0:=by rw[ho (by omega),Nat.zero_mul]
 exact⟨_,_,_,rfl,k,hLU,(by omega),(by omega),hgr, .inr (Nat.le_of_eq an)⟩

theorem MV(w0 w:World)(v c:Value)(l:List AK)(x:AK)(f:Ext w0 w)(ho:OG w0.heap.size 60 33 nmdC w v l)(h:RG 33 nmdC w c [x])(hl:l.length≤1000):
  Calls Tryz.prog 92 #[v,NI l.length,c] w fun e w' =>∃v',e = .returned v' ∧OG w0.heap.size 60 33 nmdC w' v' (l++ [x])∧Ext w0 w' :=by
 refine As (args:= [v,NI l.length,c]) Tryz.func92 rfl 95 rfl (Nat.le_of_ble_eq_true rfl) ?_
 intro i hb
 have g:i 0=(v:Value):=hb.get 0
 have m:i 1=(NI l.length:Value):=hb.get 1
 have n:i 2=(c:Value):=hb.get 2
 clear hb
 have hE:=Ext.refl w
 refine sk fun K1 o=>(wt (oA rfl (oZ (tN (o _ _ (sk fun K2 p=>(wt (oM rfl (oM rfl (oS rfl (Yk.sliceLoW D5 Iw g (RG.ofOwn ho) m (Nat.le_refl _) fun v3 q ha5=>(oZ (tN (p _ _ (sk fun K6 r=>(wt (oM rfl (oS rfl (Yk.lenRG D5 (RG.of h n) ?_)))))))))))))))))))
 refine oA rfl (oZ (tN (r _ _ (sk fun K7 s=>(sk fun K8 t=>(wt (oM rfl (oS rfl (Yk.eqI (a:=(([x]).length:Nat)) (b:=(0:Nat)) rfl rfl (A2 _ _ _ _) (oZ (tN (t _ _ (AH (vr (.bool (false)) (congrArg Value.bool (decide_eq_false (by simp)))) (Aq (tN (s _ _ (sk fun K9 u=>(wt (oM rfl ?_)))))))))))))))))))
 refine oS rfl (Yk.lenRG D5 (RG.of (RG.ofOwn ho) g) (oA rfl (oZ (tN (u _ _ (sk fun aj ak=>(sk fun al y=>(wt (oM rfl (oM rfl (oS rfl (Yk.eqI (a:=(l.length:Nat)) (b:=(l.length:Nat)) m rfl (A2 _ _ _ _) (oZ (tN (y _ _ (wpF_true (vr (.bool (true)) (congrArg Value.bool (decide_eq_true (rfl)))) (sk fun am z=>(wt (oM rfl ?_)))))))))))))))))))
 refine oM rfl (oS rfl (Yk.appendRG _ _ w0.heap.size _ 48 D5 wr30_ig60.choose_spec.1 wr30_ig60.choose_spec.2 D5 (l) ([x]) (OG.of ho g) (RG.of h n) (fun _ _=>CL) (by simp only[List.length_cons,List.length_nil];omega) (by simp only[List.length_cons,List.length_nil];omega) f.size fun j aa ab k=> ?_))
 have k:Grew w aa v j:= .eqv g k
 clear h
 clear hE
 have f:=AZ f k ho.2 (Nat.le_refl _)
 clear q
 clear ho
 refine oA rfl (oZ (tN (z _ _ (Am (An (Aj (fn:=Tryz.f92) _ rfl [j] (j) rfl ⟨rfl,trivial⟩ ?_))))))
 exact⟨_,rfl,ab,f⟩
open Go.RowKit
section
variable {α : Type} {b k g c : Nat} {t : TypeId} {enc : α → List Value} {w : World} {v : Value} {l : List α} {R : List Value}
theorem OG.row(h:OG b t k enc w v l)(h0:0<l.length):∃g c R,v = .slice (some ⟨g,0,none⟩) l.length c∧b≤g∧w.heap[g]? =some (.cells (l.flatMap enc++R).toArray t (0,0))∧(l.flatMap enc++R).length=c*k∧l.length≤c∧c≤maxLen:=by
  obtain⟨-,hx,⟨-,h1⟩ | ⟨g,c,cur,rfl,hb,hg,hn,hm,hs,ht⟩⟩:=h
  · omega
  · refine⟨g,c,cur.toList.drop (l.length*k),rfl,hb,?_,?_,hn,hm⟩
    · rw[←ht,List.take_append_drop];exact hg
    · rw[←ht,List.take_append_drop,Array.length_toList,hs]
theorem OG.ofRow(hl:∀x∈l,(enc x).length=k)(hb:b≤g)(hg:w.heap[g]? =some (.cells (l.flatMap enc++R).toArray t (0,0)))(hL:(l.flatMap enc++R).length=c*k)(hn:l.length≤c)(hm:c≤maxLen):OG b t k enc w (.slice (some ⟨g,0,none⟩) l.length c) l:=
  ⟨hl,Gb hl, .inr ⟨g,c,_,rfl,hb,hg,hn,hm,by rw[List.size_toArray,hL],by rw[List.toList_toArray,List.take_left' (Gb hl)]⟩⟩
theorem Ll(d:α){p:Nat}(hp:p<l.length):l.flatMap enc=(l.take p).flatMap enc++enc (l.getD p d)++(l.drop (p+1)).flatMap enc:=by
  conv=>lhs;rw[←List.take_append_drop p l,List.drop_eq_getElem_cons hp]
  rw[List.flatMap_append,List.flatMap_cons,←List.append_assoc,List.getD_eq_getElem?_getD,List.getElem?_eq_getElem hp]
  rfl
end
section
variable {P : Program} {K : Value → World → Prop} {ρ : Au} {w : World} {d : Option Tmp} {ty : TypeId} {pos : String} {af : Array Edge} {gd : Option (Nat × Bool)} {α : Type} {t : TypeId}
theorem Yk.lit1B{k:Nat}{enc:α→List Value}{e:TypeId}{x:Operand}{a:α}(hx:Ag ρ x = .agg (enc a).toArray)(hl:(enc a).length=k) 
    (hr:∀(cs:Array Value),cs.size=k→∀w:World,(Instr.buildSlice t 1 #[(0, .agg cs)]).run P w = .ok (.slice (some ⟨w.heap.size,0,none⟩) 1 1) (w.alloc (.cells cs e)))
    (hk:∀b w',w.heap.size=b→w'.heap[b]? =some (.cells (enc a).toArray e (0,0))→Ext w w' →w'.heap.size=w.heap.size+1→K (.slice (some ⟨b,0,none⟩) 1 1) w'):Yk P K ((execOp (Ag ρ) ⟨d, .buildSlice t 1 #[(0,x)],ty,pos,af,gd⟩).run P w):=by
  have hE:Ext w (w.alloc (.cells (enc a).toArray e)):=(Below.refl _ _).alloc (Nat.le_refl _) _
  refine Yk.value (v:= .slice (some ⟨w.heap.size,0,none⟩) 1 1) (w' :=w.alloc (.cells (enc a).toArray e)) ?_ (hk _ _ rfl (heap_alloc_new w _) hE (by simp))
  unfold execOp
  simp only[List.map_toArray,List.map_cons,List.map_nil,hx,Sem.run_bind,hr _ (show(enc a).toArray.size=k by rw[List.size_toArray];exact hl),Result.andThen_ok,Sem.run_pure]
theorem NZ{l:List α}{p:Nat}{x:α}(hp:p<l.length):l.set p x=l.take p++x :: l.drop (p+1):=by rw[List.set_eq_take_append_cons_drop,if_pos hp]
theorem Yk.storeNmdId{b:Nat}{t' e:TypeId}{v:Value}{l:List AK}{g p:Nat}{i:BS}{x y:Operand}(hx:Ag ρ x=PQ g (p*33+1))(hy:Ag ρ y = .agg (Lib.byteCells i.1).toArray)(h:OG b e 33 nmdC w v l)(hg:v.ownBlock=some g)(hp:p<l.length)(hinfo:(P.info? t').map (·.size)=some 32) 
    (hk:∀w',OG b e 33 nmdC w' v (l.set p ⟨(l.getD p dNmd).name,i⟩)→Grew w w' v v→K undef w'):Yk P K ((execOp (Ag ρ) ⟨d, .store t' x y,ty,pos,af,gd⟩).run P w):=by
  obtain⟨g',c,R,rfl,hb,hC,hL,hc,hm⟩:=h.row (by omega)
  obtain rfl:g' =g:=by simpa [Value.ownBlock] using hg
  have h1:=i.2
  have h2:=(l.getD p dNmd).id.2
  have a:l.flatMap nmdC++R=((l.take p).flatMap nmdC++ [St (l.getD p dNmd).name])++Lib.byteCells (l.getD p dNmd).id.1++((l.drop (p+1)).flatMap nmdC++R):=by
    rw[Ll dNmd hp]
    simp[nmdC]
  have f:((l.set p ⟨(l.getD p dNmd).name,i⟩).flatMap nmdC)++R=((l.take p).flatMap nmdC++ [St (l.getD p dNmd).name])++Lib.byteCells i.1++((l.drop (p+1)).flatMap nmdC++R):=by
    rw[NZ hp,List.flatMap_append,List.flatMap_cons]
    simp[nmdC]
  have hn:((l.take p).flatMap nmdC).length=p*33:=by rw[Gb (fun x _=>Bq x),List.length_take];congr 1;omega
  rw[a]at hC
  refine Yk.storeMid hx hy hC (by rw[List.length_append,hn];rfl) (by rw[Lib.byteCells_length,Lib.byteCells_length,h1,h2]) (by rw[Lib.byteCells_length,h1];exact hinfo) (Ay _) fun w' k1 k2 _=>hk w' ?_ ⟨k2,fun k hk=> .inl hk⟩
  rw[←f]at k1
  rw[show l.length=(l.set p (⟨(l.getD p dNmd).name,i⟩:AK)).length by rw[List.length_set]]
  refine OG.ofRow (fun x _=>Bq x) hb k1 ?_ (by rw[List.length_set];exact hc) hm
  rw[←hL,a,f]
  simp only[List.length_append,Lib.byteCells_length,h1,h2]
end
theorem Lm{l:List AK}:∀u∈l.flatMap nmdC,u.oneCell' =true:=fun u hu=>by
  obtain⟨x,-,hx⟩:=List.mem_flatMap.1 hu
  exact CL u hx
theorem nmds_len(l:List AK):(l.flatMap nmdC).length=l.length*33:=Gb (fun x _=>Bq x)
theorem N1(w0 w:World)(v:Value)(l:List AK)(p:Nat)(hE:Ext w0 w)(h:OG w0.heap.size 60 33 nmdC w v l)(hp:p<l.length):
    Calls Tryz.prog 91 #[v,NI p,NI (p+1)] w fun e w' =>∃v',e = .returned v' ∧OG w0.heap.size 60 33 nmdC w' v' (l.eraseIdx p)∧Ext w0 w' :=by
  obtain⟨g,c,R,rfl,hb,hC,hL,hc,hm⟩:=h.row (by omega)
  have hl:l.length=p+1+(l.length-(p+1)):=by omega
  rw[Ll dNmd hp]at hC hL
  refine Calls.mono (MT w _ g c p (l.length-(p+1)) _ _ _ R (by rw[nmds_len,List.length_take];omega) (Bq _) (by rw[nmds_len,List.length_drop]) ((SB.first _ _ _ _).eq rfl hl rfl) hC hL (by omega) hm Lm) fun e w' ⟨R',f,a,b,i⟩=> ?_
  rw[←List.flatMap_append,←List.eraseIdx_eq_take_drop_succ]at a b
  have hle:(l.eraseIdx p).length=p+(l.length-(p+1)):=by rw[List.length_eraseIdx_of_lt hp];omega
  refine⟨_,f,?_,Af hE i hb⟩
  rw[←hle]
  exact OG.ofRow (fun x _=>Bq x) hb a b (by omega) hm
theorem N2(w0 w:World)(v f:Value)(l:List AK)(p b:Nat)(x:AK)(TX:TypeId)(hE:Ext w0 w)(h:OG w0.heap.size 60 33 nmdC w v l)(hp:p≤l.length)(hl:l.length≤1000) 
    (hv2:f = .slice (some ⟨b,0,none⟩) 1 1) (hX:w.heap[b]? =some (.cells (nmdC x).toArray TX (0,0))) (hne:v.ownBlock≠some b):
    Calls Tryz.prog 92 #[v,NI p,f] w fun e w' =>∃v',e = .returned v' ∧OG w0.heap.size 60 33 nmdC w' v' (l.take p++x :: l.drop p)∧Ext w0 w' :=by
  subst hv2
  by_cases hpe:p=l.length
  · subst hpe
    rw[List.take_length,List.drop_length]
    exact MV w0 w v _ l x hE h (RG.single (Bq x) hX) hl
  · obtain⟨g,c,R,rfl,hb,hC,hL,hc,hm⟩:=h.row (by omega)
    have k:l.flatMap nmdC=(l.take p).flatMap nmdC++(l.drop p).flatMap nmdC:=by rw[←List.flatMap_append,List.take_append_drop]
    rw[k]at hC hL
    refine Calls.mono (MU w _ _ g b c p (l.length-p) TX _ (nmdC x) _ R (by rw[nmds_len,List.length_take];omega) (Bq x) (by rw[nmds_len,List.length_drop]) ((SB.first _ _ _ _).eq rfl (by omega) rfl) hC hL (by omega) hm (by omega) Lm CL (SB.first _ _ _ _) hX (fun e=>hne (by rw[e];rfl)) (by omega)) fun e w' ⟨g',c',R',m,i,j,r,n,o,a⟩=> ?_
    have q:(l.take p).flatMap nmdC++nmdC x++(l.drop p).flatMap nmdC=(l.take p++x :: l.drop p).flatMap nmdC:=by rw[List.flatMap_append,List.flatMap_cons,List.append_assoc]
    rw[q]at i j
    have hle:(l.take p++x :: l.drop p).length=p+1+(l.length-p):=by rw[List.length_append,List.length_cons,List.length_take,List.length_drop];omega
    refine⟨_,m,?_,Af hE o hb⟩
    rw[←hle]
    refine OG.ofRow (fun x _=>Bq x) ?_ i j (by omega) n
    rcases a with rfl | a
    · exact hb
    · exact Nat.le_trans hE.size a
def CJ(l:List AK)(p:Nat)(y:Ba):Nat × List AK:=
  if(if Bt l y.name p=true then(l.getD p dNmd).id else zid).1≠y.old.1 then(15,[])
  else if Ai y.new=true then(if Bt l y.name p=true then(0,l.eraseIdx p)else(0,l))
  else if Bt l y.name p=true then(0,l.set p ⟨(l.getD p dNmd).name,y.new⟩)
  else if 64≤l.length then(3,[])else(0,l.take p++⟨y.name,y.new⟩ :: l.drop p)
def BG(l:List AK)(s:List UInt8):Nat:=(l.takeWhile fun n=>decide (n.name<s)).length
theorem Cu:∀ {l:List AK} {s:List UInt8} {p:Nat},Hu l s p→p=BG l s
  | [],s,p,h=>by have:=h.1;simp at this;subst this;rfl
  | a :: l,s,p,h=>by
    by_cases ha:a.name<s
    · cases p with
      | zero=>exact absurd ha (h.2.2 0 (Nat.le_refl _) (by simp))
      | succ p=>
        have hp:=h.1
        have ih:p=BG l s:=Cu ⟨by simpa using hp,fun j hj=>h.2.1 (j+1) (by omega),fun j hj hl=>h.2.2 (j+1) (by omega) (by simpa using hl)⟩
        unfold BG at ih ⊢
        rw[List.takeWhile_cons,if_pos (by simpa using ha),List.length_cons,←ih]
    · cases p with
      | zero=>unfold BG;rw[List.takeWhile_cons,if_neg (by simpa using ha)];rfl
      | succ p=>exact absurd (h.2.1 0 (by omega)) ha
def Aw(l:List AK)(y:Ba):Nat × List AK:=CJ l (BG l y.name) y
theorem OG.low{α:Type}{b b' k:Nat}{t:TypeId}{enc:α→List Value}{w:World}{v:Value}{l:List α}(h:OG b t k enc w v l)(hb:b' ≤b):OG b' t k enc w v l:=⟨h.1,Bg h.2 hb⟩
open Go.RowKit
set_option maxRecDepth 100000
theorem Ic{l:List AK}{s:Bs}{p:Nat}(h:Bt l s p=true):p<l.length:=by
 unfold Bt at h
 simp only[Bool.and_eq_true,decide_eq_true_eq]at h
 exact h.1
theorem KG{l:List AK}{p:Nat}{y:Ba}(hf:Bt l y.name p=true):CJ l p y=if(l.getD p dNmd).id.1≠y.old.1 then(15,[])else if Ai y.new=true then(0,l.eraseIdx p)else(0,l.set p ⟨(l.getD p dNmd).name,y.new⟩):=by unfold CJ;rw[hf];rfl
theorem IH{l:List AK}{p:Nat}{y:Ba}(hf:Bt l y.name p=false):CJ l p y=if List.replicate 32 0≠y.old.1 then(15,[])else if Ai y.new=true then(0,l)else if 64≤l.length then(3,[])else(0,l.take p++⟨y.name,y.new⟩ :: l.drop p):=by unfold CJ;rw[hf];rfl
theorem N3:AI Tryz.prog 58:=fun _ _=>by kernel_rfl
theorem JI:AI Tryz.prog 54:=fun _ _=>by kernel_rfl
theorem N4:AI Tryz.prog 91:=fun _ _=>by kernel_rfl
theorem Jf(z0:ByteArray)(c1_0 c1_1 c1_2 c1_3 c1_4 c1_5 c1_6 c1_7 c1_8 c1_9 c1_10 c1_11 c1_12 c1_13 c1_14 c1_15 c1_16 c1_17 c1_18 c1_19 c1_20 c1_21 c1_22 c1_23 c1_24 c1_25 c1_26 c1_27 c1_28 c1_29 c1_30 c1_31:Value)(w:World):(Instr.build 60 #[(0, .string z0),(1, .agg #[c1_0,c1_1,c1_2,c1_3,c1_4,c1_5,c1_6,c1_7,c1_8,c1_9,c1_10,c1_11,c1_12,c1_13,c1_14,c1_15,c1_16,c1_17,c1_18,c1_19,c1_20,c1_21,c1_22,c1_23,c1_24,c1_25,c1_26,c1_27,c1_28,c1_29,c1_30,c1_31])]).run Tryz.prog w = .ok (.agg #[.string z0,c1_0,c1_1,c1_2,c1_3,c1_4,c1_5,c1_6,c1_7,c1_8,c1_9,c1_10,c1_11,c1_12,c1_13,c1_14,c1_15,c1_16,c1_17,c1_18,c1_19,c1_20,c1_21,c1_22,c1_23,c1_24,c1_25,c1_26,c1_27,c1_28,c1_29,c1_30,c1_31]) w:=by kernel_rfl
theorem Kp(z0:List UInt8)(z1:BS)(w:World):(Instr.build 60 #[(0,St z0),(1,AB z1.1)]).run Tryz.prog w = .ok (.agg (St (z0) :: (Lib.byteCells z1.1)).toArray) w:=by
 obtain⟨z1,k1⟩:=z1
 obtain⟨a1_0,a1_1,a1_2,a1_3,a1_4,a1_5,a1_6,a1_7,a1_8,a1_9,a1_10,a1_11,a1_12,a1_13,a1_14,a1_15,a1_16,a1_17,a1_18,a1_19,a1_20,a1_21,a1_22,a1_23,a1_24,a1_25,a1_26,a1_27,a1_28,a1_29,a1_30,a1_31,rfl⟩:=Fc k1
 exact Jf _ _ _ _ _ _ _ _ _ _ _ _ _ _ _ _ _ _ _ _ _ _ _ _ _ _ _ _ _ _ _ _ _ w
theorem N5(c0 c1 c2 c3 c4 c5 c6 c7 c8 c9 c10 c11 c12 c13 c14 c15 c16 c17 c18 c19 c20 c21 c22 c23 c24 c25 c26 c27 c28 c29 c30 c31 c32:Value)(w:World):(Instr.buildSlice 33 1 #[(0, .agg #[c0,c1,c2,c3,c4,c5,c6,c7,c8,c9,c10,c11,c12,c13,c14,c15,c16,c17,c18,c19,c20,c21,c22,c23,c24,c25,c26,c27,c28,c29,c30,c31,c32])]).run Tryz.prog w = .ok (.slice (some ⟨w.heap.size,0,none⟩) 1 1) (w.alloc (.cells #[c0,c1,c2,c3,c4,c5,c6,c7,c8,c9,c10,c11,c12,c13,c14,c15,c16,c17,c18,c19,c20,c21,c22,c23,c24,c25,c26,c27,c28,c29,c30,c31,c32] 60)):=by kernel_rfl
theorem N6:∀(cs:Array Value),cs.size=33→∀w:World,(Instr.buildSlice 33 1 #[(0, .agg cs)]).run Tryz.prog w = .ok (.slice (some ⟨w.heap.size,0,none⟩) 1 1) (w.alloc (.cells cs 60))
 | ⟨c0 :: c1 :: c2 :: c3 :: c4 :: c5 :: c6 :: c7 :: c8 :: c9 :: c10 :: c11 :: c12 :: c13 :: c14 :: c15 :: c16 :: c17 :: c18 :: c19 :: c20 :: c21 :: c22 :: c23 :: c24 :: c25 :: c26 :: c27 :: c28 :: c29 :: c30 :: c31 :: c32 :: []⟩,_,w=>N5 c0 c1 c2 c3 c4 c5 c6 c7 c8 c9 c10 c11 c12 c13 c14 c15 c16 c17 c18 c19 c20 c21 c22 c23 c24 c25 c26 c27 c28 c29 c30 c31 c32 w
theorem N7:AI Tryz.prog 92:=fun _ _=>by kernel_rfl
set_option maxHeartbeats 1600000
theorem II(w:World)(v:Value)(l:List AK)(hr:RG 33 nmdC w v l)(hl:l.length≤1000)(hs:Dj l)(y:Ba):
  Calls Tryz.prog 80 #[v, .agg (updC y).toArray] w fun e w' =>∃v',e = .returned (.tuple #[v',NI (Aw l y).1])∧OG w.heap.size 60 33 nmdC w' v' (Aw l y).2∧Ext w w' :=by
 refine As (args:= [v, .agg (updC y).toArray]) Tryz.func80 rfl 68 rfl (Nat.le_of_ble_eq_true rfl) ?_
 intro a7 hb
 have h:a7 0=(v:Value):=hb.get 0
 have s:a7 1=(.agg (updC y).toArray:Value):=hb.get 1
 clear hb
 have hE:=Ext.refl w
 refine sk fun K1 bv=>(wt (oS rfl (Yk.box (cs:=(updC y:List Value).toArray) s fun f w3 c8 a8 bx c9=> ?_)))
 have hE:=hE.trans bx
 have c:=a8;clear a8
 have da:f<w3.heap.size:=by omega
 refine oA rfl (oA rfl (oZ (tN (bv _ _ (sk fun db a9=>(wt (oM rfl (oS rfl (Yk.fieldAt LY (vr (PQ f 0) rfl) (oS rfl (Yk.cell1 DT rfl (vr (PQ f 1) rfl) (Al c (show(updC y)[1]? =some (St (y.name):Value)from DI y)) (oS rfl (Yk.callA2 N3 h (vr (St (y.name)) rfl) ((JG _ v l (hr.keep hE) hl hs y.name).mono ?_))))))))))))))
 rintro e ba ⟨⟨p,rfl,hp⟩,bb⟩
 refine⟨_,rfl,?_⟩
 have hE:=hE.trans bb
 have c:=eb bb c
 refine oM rfl (oS rfl (Yk.extract (vs:= [NI p, .bool (Bt l y.name p)]) (vr (.tuple #[NI p, .bool (Bt l y.name p)]) rfl) (show _=some (NI p:Value)from rfl) (oS rfl (Yk.extract (vs:= [NI p, .bool (Bt l y.name p)]) (vr (.tuple #[NI p, .bool (Bt l y.name p)]) rfl) (show _=some (.bool (Bt l y.name p):Value)from rfl) (oA rfl (oA rfl (oZ ?_)))))))
 by_cases hf:Bt l y.name p=true
 ·have hlt:p<l.length:=Ic hf
  refine tN (a9 _ _ (sk fun dc bz=>(wt (oS rfl (Yk.run (v:=AB (List.replicate 32 0)) (by kernel_rfl) (oS rfl (Yk.alloc (cs:=(Lib.byteCells (List.replicate 32 0)).toArray) H9 fun ab b0 b1 bc au dd=> ?_)))))))
  have x:=Ext.refl ba
  have bd:=hE.size
  have de:=Bc (bl c) b1
  have hE:=hE.trans au
  have c:=eb au c
  have x:=x.trans au
  have m:=bc;clear bc
  have df:ab<b0.heap.size:=by omega
  refine oS rfl (Yk.storeAll (vr (PQ ab 0) rfl) (vr (AB (List.replicate 32 0)) rfl) m (by exact BK List.length_replicate List.length_replicate) (by exact At List.length_replicate) (Ay _) fun b2 be av dg=> ?_)
  have hE:=Af hE av (Nat.le_trans bd (by omega))
  have c:=kb av c (by omega)
  have x:=Af x av (Nat.le_trans (Nat.le_refl _) (by omega))
  clear m
  have m:=be;clear be
  have dh:=bl m
  refine oZ (tN (bz _ _ (sk fun di b3=>(sk fun dj b4=>(wt (oM rfl (oZ (tN (b4 _ _ (wpF_true (vr (.bool (true)) ((show _=Value.bool (Bt l y.name p)from rfl).trans (congrArg Value.bool hf))) (wt (oM rfl (oM rfl ?_)))))))))))))
  have dk:(nmdC (l.getD (p) dNmd)).length=33:=(RG.elem (hr.keep hE) dNmd (by omega))
  refine oS rfl (Yk.atRG D5 Iw (by decide) dNmd (RG.of (hr.keep hE) h) (vr (NI p) rfl) (by omega) fun b5 bf=> ?_)
  have ag:(Lib.byteCells (l.getD (p) dNmd).id.1).length=32:=by rw[Lib.byteCells_length,(l.getD (p) dNmd).id.2]
  refine oS rfl (Yk.fieldPR (n:=32) LT (PR.of bf (vr b5 rfl)) fun bg ao=> ?_)
  have ao:PR (Lib.byteCells (l.getD (p) dNmd).id.1) bg b2:=(Ee (l.getD (p) dNmd))▸ao
  refine oS rfl (Yk.loadPR (PR.of ao (vr bg rfl)) P8 rfl (by rw[ag];exact Nw) (oS rfl (Yk.storeAll (vr (PQ ab 0) rfl) (vr (AB ((l.getD (p) dNmd).id.1)) rfl) m (by exact BK (Ct (ag)) List.length_replicate) (by exact At (Ct (ag))) (Ay _) fun bh bi aw dl=> ?_)))
  have hE:=Af hE aw (Nat.le_trans bd (by omega))
  have c:=kb aw c (by omega)
  have x:=Af x aw (Nat.le_trans (Nat.le_refl _) (by omega))
  clear bf
  clear ao
  clear m
  have m:=bi;clear bi
  have dm:=bl m
  refine oZ (tN (b3 _ _ (sk fun dn b6=>(sk fun dp b7=>(wt (oS rfl (Yk.loadAll (vr (PQ ab 0) rfl) m P8 rfl (by exact At (Ct (ag))) (oS rfl (Yk.fieldAt HU (vr (PQ f 0) rfl) (oS rfl (Yk.loadPR (PR.blk c (Fe y) (Ff y) (vr (PQ f 2) rfl)) P8 rfl (At y.old.2) (oS rfl (Yk.neArr (l1:=((l.getD (p) dNmd).id.1)) (l2:=y.old.1) P8 u5 MH NE (vr (AB ((l.getD (p) dNmd).id.1)) rfl) (vr (AB y.old.1) rfl) ((Ct (ag))) (y.old.2) (oZ (tN (b7 _ _ ?_))))))))))))))))
  refine AL (((l.getD (p) dNmd).id.1)≠y.old.1) (vr (.bool (decide (((l.getD (p) dNmd).id.1)≠y.old.1))) rfl) (fun z=> ?_) (fun z=> ?_)
  ·have hmv:=z
   refine sk fun dq b8=>(wt (oA rfl (oA rfl (oZ (tN (b8 _ _ (Am (An (Aj (fn:=Tryz.f80) _ rfl [(Value.slice none 0 0),NI 15] (.tuple #[(Value.slice none 0 0),NI 15]) rfl ⟨rfl,rfl,trivial⟩ ?_)))))))))
   have hT:CJ l p y=(15,[]):=by rw[KG hf,if_pos hmv]
   rw[show CJ l p y=Aw l y by unfold Aw;rw[←Cu hp]]at hT
   exact⟨_,by rw[hT],by rw[hT];exact(OG.nil _ _ _ _ _),hE⟩
  have hmv:=z
  refine Aq (tN (b6 _ _ (sk fun dr b9=>(wt (oM rfl ?_)))))
  have ah:=Ext.refl bh
  have ca:=hE
  have ax:=hE.size
  have ds:=x.size
  refine oS rfl (Yk.callA1 JI h ((Eh _ v l (hr.keep hE) (by omega)).mono ?_))
  rintro e dt ⟨ac,rfl,j,ay⟩
  refine⟨_,rfl,?_⟩
  have cb:OB ac f:=Be j.2 (bl c)
  have hE:=hE.trans ay
  have c:=eb ay c
  have ah:=ah.trans ay
  refine oA rfl (oZ (tN (b9 _ _ (sk fun du bj=>(Av (sk fun dv cc=>(wt (oS rfl (Yk.fieldAt HV (vr (PQ f 0) rfl) (oS rfl (Yk.loadPR (PR.blk c (Dk y) (Dl y) (vr (PQ f 34) rfl)) P8 rfl (At y.new.2) (oS rfl (Yk.callA1 GZ (vr (AB y.new.1) rfl) ((B9 _ y.new).mono ?_))))))))))))))
  rintro e dw ⟨rfl,ap⟩
  refine⟨_,rfl,?_⟩
  have hE:=hE.trans ap
  have c:=eb ap c
  have ah:=ah.trans ap
  have j:=j.keep ap
  refine oM rfl (Ac (.bool (true)) rfl rfl (gT (vr (.bool (Ai y.new)) rfl)) (fun hG63=>Yk.move (vr (.bool (true)) ((show _=Value.bool (Bt l y.name p)from rfl).trans (congrArg Value.bool hf))) ⟨rfl,rfl⟩) (oS rfl (Yk.pickAndN (vr (.bool (Ai y.new)) rfl) (fun hA=>(Ak (vr (cond ((Ai y.new)) (.bool (true)) undef) rfl) hA)) (vr (.bool (false)) rfl) fun bb64 hbb65=>(oA rfl (A3 [(0,v),(1, .agg (updC y).toArray),(3,PQ f 0),(4,(Value.slice none 0 0)),(5,NI 0),(6,NI p),(7, .bool (true)),(8,PQ ab 0),(9,ac),(18, .bool (true)),(39, .bool (bb64))] ⟨h,s,rfl,rfl,rfl,rfl,((show _=Value.bool (Bt l y.name p)from rfl).trans (congrArg Value.bool hf)),rfl,rfl,((show _=Value.bool (Bt l y.name p)from rfl).trans (congrArg Value.bool hf)),rfl,trivial⟩ fun dx ⟨h,s,o,T4,T5,t,T7,T8,q,al,az,_⟩=>(tN (cc _ _ ?_)))))))
  refine AW (bb64) az (fun ad=> ?_) (fun ad=> ?_)
  ·subst hbb65
   have hz:Ai y.new=true:=by simpa using ad
   refine wt (oM rfl (oM rfl (oM rfl (oS rfl (Yk.bin (xv:=NI p) (yv:=NI 1) t rfl rfl (AA _ _ _ (by omega)) (oS rfl (Yk.callA3 N4 q t (vr (NI ((p)+(1))) rfl) ((N1 bh _ ac l p ah j hlt).mono ?_))))))))
   rintro e dy ⟨bk,rfl,cd,ce⟩
   refine⟨_,rfl,?_⟩
   have hE:=ca.trans ce
   clear c
   clear m
   clear j
   refine oA rfl (oZ (bN (tN (bj _ _ (sk fun dz cf=>(wt (oM rfl (oA rfl (oA rfl (oZ (tN (cf _ _ (Am (Aj (fn:=Tryz.f80) _ rfl [bk,NI 0] (.tuple #[bk,NI 0]) rfl ⟨rfl,rfl,trivial⟩ ?_))))))))))))))
   have hT:CJ l p y=(0,l.eraseIdx p):=by rw[KG hf,if_neg hmv,if_pos hz]
   rw[show CJ l p y=Aw l y by unfold Aw;rw[←Cu hp]]at hT
   exact⟨_,by rw[hT],by rw[hT];exact(OG.low cd ax),hE⟩
  subst hbb65
  have hz:Ai y.new=false:=by simpa using ad
  refine sk fun d0 cg=>(wt (oS rfl (Yk.fieldAt HV o (oS rfl (Yk.loadPR (PR.blk c (Dk y) (Dl y) (vr (PQ f 34) rfl)) P8 rfl (At y.new.2) (oS rfl (Yk.callA1 GZ (vr (AB y.new.1) rfl) ((B9 _ y.new).mono ?_))))))))
  rintro e d1 ⟨rfl,a0⟩
  refine⟨_,rfl,?_⟩
  have hE:=hE.trans a0
  have c:=eb a0 c
  have j:=j.keep a0
  refine oA rfl (A3 [(0,v),(1, .agg (updC y).toArray),(3,PQ f 0),(4,(Value.slice none 0 0)),(5,NI 0),(6,NI p),(7, .bool (true)),(8,PQ ab 0),(9,ac),(18, .bool (true)),(51, .bool (Ai y.new))] ⟨h,s,o,T4,T5,t,T7,T8,q,al,rfl,trivial⟩ fun d2 ⟨h,s,o,T4,T5,t,T7,T8,q,al,a1,_⟩=>(tN (cg _ _ (AH (show _=Value.bool false from(a1).trans (congrArg Value.bool (hz))) (sk fun d3 ch=>(wt (oM rfl (oA rfl (oZ ?_)))))))))
  obtain⟨g,hg⟩:=OG.block j hlt
  refine tN (ch _ _ (wpF_true T7 (wt (oM rfl (oM rfl (oS rfl (Yk.fieldAt HV o (oS rfl (Yk.loadPR (PR.blk c (Dk y) (Dl y) (vr (PQ f 34) rfl)) P8 rfl (At y.new.2) (oS rfl (Yk.atOwnK (k:=33) (i:=p) D5 Iw q j.2 hg t (hlt) (oS rfl (Yk.fieldAt LT (vr (.pointer (some ⟨g,p*33,none⟩)) rfl) (oS rfl (Yk.storeNmdId (p:=p) (i:=y.new) (vr (.pointer (some ⟨g,p*33+1,none⟩)) rfl) (vr (AB y.new.1) rfl) j hg hlt Nw fun d4 ci bm=> ?_)))))))))))))))
  have hE:=AZ hE bm j.2 ax
  have c:=AN c bm cb
  clear j
  refine oZ (bN (tN (bj _ _ (sk fun d5 cj=>(wt (oM rfl (oA rfl (oA rfl (oZ (tN (cj _ _ (Am (Aj (fn:=Tryz.f80) _ rfl [ac,NI 0] (.tuple #[ac,NI 0]) rfl ⟨q,rfl,trivial⟩ ?_)))))))))))))
  have hT:CJ l p y=(0,l.set p ⟨(l.getD p dNmd).name,y.new⟩):=by rw[KG hf,if_neg hmv,if_neg (by rw[hz];decide)]
  rw[show CJ l p y=Aw l y by unfold Aw;rw[←Cu hp]]at hT
  exact⟨_,by rw[hT],by rw[hT];exact(OG.low ci ax),hE⟩
 replace hf:Bt l y.name p=false:=by simpa using hf
 refine tN (a9 _ _ (sk fun d6 ck=>(wt (oS rfl (Yk.run (v:=AB (List.replicate 32 0)) (by kernel_rfl) (oS rfl (Yk.alloc (cs:=(Lib.byteCells (List.replicate 32 0)).toArray) H9 fun am cl cm bn a2 d7=> ?_)))))))
 have an:=Ext.refl ba
 have cn:=hE.size
 have d8:=Bc (bl c) cm
 have hE:=hE.trans a2
 have c:=eb a2 c
 have an:=an.trans a2
 have ae:=bn;clear bn
 have d9:am<cl.heap.size:=by omega
 refine oS rfl (Yk.storeAll (vr (PQ am 0) rfl) (vr (AB (List.replicate 32 0)) rfl) ae (by exact BK List.length_replicate List.length_replicate) (by exact At List.length_replicate) (Ay _) fun bo bp a3 ea=> ?_)
 have hE:=Af hE a3 (Nat.le_trans cn (by omega))
 have c:=kb a3 c (by omega)
 have an:=Af an a3 (Nat.le_trans (Nat.le_refl _) (by omega))
 clear ae
 have ae:=bp;clear bp
 have ec:=bl ae
 refine oZ (tN (ck _ _ (sk fun ed co=>(sk fun ee cp=>(wt (oM rfl (oZ (tN (cp _ _ (AH (vr (.bool (false)) ((show _=Value.bool (Bt l y.name p)from rfl).trans (congrArg Value.bool hf))) (Aq (tN (co _ _ (sk fun ef cq=>(sk fun eg cr=>(wt (oS rfl (Yk.loadAll (vr (PQ am 0) rfl) ae P8 rfl (by exact At List.length_replicate) (oS rfl (Yk.fieldAt HU (vr (PQ f 0) rfl) ?_))))))))))))))))))))
 refine oS rfl (Yk.loadPR (PR.blk c (Fe y) (Ff y) (vr (PQ f 2) rfl)) P8 rfl (At y.old.2) (oS rfl (Yk.neArr (l1:=(List.replicate 32 0)) (l2:=y.old.1) P8 u5 MH NE (vr (AB (List.replicate 32 0)) rfl) (vr (AB y.old.1) rfl) (List.length_replicate) (y.old.2) (oZ (tN (cr _ _ ?_))))))
 refine AL ((List.replicate 32 0)≠y.old.1) (vr (.bool (decide ((List.replicate 32 0)≠y.old.1))) rfl) (fun z=> ?_) (fun z=> ?_)
 ·have hmv:=z
  refine sk fun eh ct=>(wt (oA rfl (oA rfl (oZ (tN (ct _ _ (Am (An (Aj (fn:=Tryz.f80) _ rfl [(Value.slice none 0 0),NI 15] (.tuple #[(Value.slice none 0 0),NI 15]) rfl ⟨rfl,rfl,trivial⟩ ?_)))))))))
  have hT:CJ l p y=(15,[]):=by rw[IH hf,if_pos hmv]
  rw[show CJ l p y=Aw l y by unfold Aw;rw[←Cu hp]]at hT
  exact⟨_,by rw[hT],by rw[hT];exact(OG.nil _ _ _ _ _),hE⟩
 have hmv:=z
 refine Aq (tN (cq _ _ (sk fun ei cu=>(wt (oM rfl ?_)))))
 have u:=Ext.refl bo
 have cv:=hE
 have bq:=hE.size
 have ej:=an.size
 refine oS rfl (Yk.callA1 JI h ((Eh _ v l (hr.keep hE) (by omega)).mono ?_))
 rintro e el ⟨af,rfl,r,a4⟩
 refine⟨_,rfl,?_⟩
 have hE:=hE.trans a4
 have c:=eb a4 c
 have u:=u.trans a4
 refine oA rfl (oZ (tN (cu _ _ (sk fun em br=>(Av (sk fun en cw=>(wt (oS rfl (Yk.fieldAt HV (vr (PQ f 0) rfl) (oS rfl (Yk.loadPR (PR.blk c (Dk y) (Dl y) (vr (PQ f 34) rfl)) P8 rfl (At y.new.2) (oS rfl (Yk.callA1 GZ (vr (AB y.new.1) rfl) ((B9 _ y.new).mono ?_))))))))))))))
 rintro e eo ⟨rfl,aq⟩
 refine⟨_,rfl,?_⟩
 have hE:=hE.trans aq
 have c:=eb aq c
 have u:=u.trans aq
 have r:=r.keep aq
 refine oM rfl (Ac (.bool (false)) rfl rfl (gT (vr (.bool (Ai y.new)) rfl)) (fun hG120=>Yk.move (vr (.bool (false)) ((show _=Value.bool (Bt l y.name p)from rfl).trans (congrArg Value.bool hf))) ⟨rfl,rfl⟩) (oS rfl (Yk.pickAndN (vr (.bool (Ai y.new)) rfl) (fun hA=>(Ak (vr (cond ((Ai y.new)) (.bool (false)) undef) rfl) hA)) (vr (.bool (false)) rfl) fun bb121 hbb122=>(oA rfl (A3 [(0,v),(1, .agg (updC y).toArray),(3,PQ f 0),(4,(Value.slice none 0 0)),(5,NI 0),(6,NI p),(7, .bool (false)),(8,PQ am 0),(9,af),(18, .bool (false)),(39, .bool (bb121))] ⟨h,s,rfl,rfl,rfl,rfl,((show _=Value.bool (Bt l y.name p)from rfl).trans (congrArg Value.bool hf)),rfl,rfl,((show _=Value.bool (Bt l y.name p)from rfl).trans (congrArg Value.bool hf)),rfl,trivial⟩ fun ep ⟨h,s,o,T4,T5,t,T7,T8,q,al,az,_⟩=>(tN (cw _ _ ?_)))))))
 refine AW (bb121) az (fun ad=> ?_) (fun ad=> ?_)
 ·(subst hbb122;simp at ad)
 subst hbb122
 refine sk fun eq cx=>(wt (oS rfl (Yk.fieldAt HV o (oS rfl (Yk.loadPR (PR.blk c (Dk y) (Dl y) (vr (PQ f 34) rfl)) P8 rfl (At y.new.2) (oS rfl (Yk.callA1 GZ (vr (AB y.new.1) rfl) ((B9 _ y.new).mono ?_))))))))
 rintro e er ⟨rfl,ar⟩
 refine⟨_,rfl,?_⟩
 have hE:=hE.trans ar
 have c:=eb ar c
 have u:=u.trans ar
 have r:=r.keep ar
 refine oA rfl (A3 [(0,v),(1, .agg (updC y).toArray),(3,PQ f 0),(4,(Value.slice none 0 0)),(5,NI 0),(6,NI p),(7, .bool (false)),(8,PQ am 0),(9,af),(18, .bool (false)),(51, .bool (Ai y.new))] ⟨h,s,o,T4,T5,t,T7,T8,q,al,rfl,trivial⟩ fun es ⟨h,s,o,T4,T5,t,T7,T8,q,al,a1,_⟩=>(tN (cx _ _ ?_)))
 refine AW (Ai y.new) a1 (fun a5=> ?_) (fun a5=> ?_)
 ·have hz:=a5
  refine Aq (bN (tN (br _ _ (sk fun et cy=>(wt (oM rfl (oA rfl (oA rfl (oZ (tN (cy _ _ (Am (Aj (fn:=Tryz.f80) _ rfl [af,NI 0] (.tuple #[af,NI 0]) rfl ⟨q,rfl,trivial⟩ ?_)))))))))))))
  have hT:CJ l p y=(0,l):=by rw[IH hf,if_neg hmv,if_pos hz]
  rw[show CJ l p y=Aw l y by unfold Aw;rw[←Cu hp]]at hT
  exact⟨_,by rw[hT],by rw[hT];exact(OG.low r bq),hE⟩
 have hz:=a5
 refine sk fun eu cz=>(wt (oM rfl (oA rfl (oZ (tN (cz _ _ (AH T7 (sk fun ew c0=>(wt (oM rfl (oS rfl (Yk.lenRG D5 (RG.of (hr.keep hE) h) (oS rfl (Yk.eqI (a:=(l.length:Nat)) (b:=(64:Nat)) rfl rfl (Ds _ _ _ _) (oA rfl (oZ (tN (c0 _ _ ?_))))))))))))))))))
 refine AL ((64)≤(l.length)) (vr (.bool (decide ((64)≤(l.length)))) rfl) (fun c1=> ?_) (fun c1=> ?_)
 ·have hfu:64≤l.length:=by omega
  refine sk fun ex c2=>(wt (oA rfl (oA rfl (oZ (tN (c2 _ _ (Am (AE (An (Aj (fn:=Tryz.f80) _ rfl [(Value.slice none 0 0),NI 3] (.tuple #[(Value.slice none 0 0),NI 3]) rfl ⟨rfl,rfl,trivial⟩ ?_))))))))))
  have hT:CJ l p y=(3,[]):=by rw[IH hf,if_neg hmv,if_neg (by rw[hz];decide),if_pos hfu]
  rw[show CJ l p y=Aw l y by unfold Aw;rw[←Cu hp]]at hT
  exact⟨_,by rw[hT],by rw[hT];exact(OG.nil _ _ _ _ _),hE⟩
 have hfu:¬64≤l.length:=by omega
 refine wt (oM rfl (oM rfl (oS rfl (Yk.fieldAt LY o (oS rfl (Yk.cell1 DT rfl (vr (PQ f 1) rfl) (Al c (show(updC y)[1]? =some (St (y.name):Value)from DI y)) (oS rfl (Yk.fieldAt HV o (oS rfl (Yk.loadPR (PR.blk c (Dk y) (Dl y) (vr (PQ f 34) rfl)) P8 rfl (At y.new.2) (oS rfl (Yk.build2 (vr (St (y.name)) rfl) (vr (AB y.new.1) rfl) (fun w=>Kp y.name y.new w) (oS rfl (Yk.lit1B (enc:=nmdC) (a:=(⟨y.name,y.new⟩:AK)) (vr (.agg (nmdC (⟨y.name,y.new⟩:AK)).toArray) rfl) (Bq _) N6 fun a6 ey ez bs bt e0=> ?_))))))))))))))
 have c3:OB af a6:=CY r.2 (by omega)
 have u:=u.trans bt
 have r:=r.keep bt
 refine oS rfl (Yk.callA3 N7 q t (vr (.slice (some ⟨a6,0,none⟩) 1 1) rfl) ((N2 bo _ af _ l p a6 (⟨y.name,y.new⟩:AK) _ u r hp.1 (by omega) rfl bs c3).mono ?_))
 rintro e e1 ⟨bu,rfl,c4,c5⟩
 refine⟨_,rfl,?_⟩
 have hE:=cv.trans c5
 clear c
 clear ae
 clear bs
 clear r
 refine oA rfl (oZ (bN (tN (br _ _ (sk fun e2 c6=>(wt (oM rfl (oA rfl (oA rfl (oZ (tN (c6 _ _ (Am (Aj (fn:=Tryz.f80) _ rfl [bu,NI 0] (.tuple #[bu,NI 0]) rfl ⟨rfl,rfl,trivial⟩ ?_))))))))))))))
 have hT:CJ l p y=(0,l.take p++⟨y.name,y.new⟩ :: l.drop p):=by rw[IH hf,if_neg hmv,if_neg (by rw[hz];decide),if_neg hfu]
 rw[show CJ l p y=Aw l y by unfold Aw;rw[←Cu hp]]at hT
 exact⟨_,by rw[hT],by rw[hT];exact(OG.low c4 bq),hE⟩
open Go.RowKit
set_option maxRecDepth 100000
abbrev Dx:Ah:=(⟨[],[],[109,97,105,110],zid,[]⟩,⟨.slice none 0 0, .slice none 0 0, .slice none 0 0⟩)
theorem Qx(e:AM):((entC e).drop 0).take 66=updC ⟨e.kind,e.name,e.old,e.new⟩:=by
 rw[List.drop_zero,show entC e=updC ⟨e.kind,e.name,e.old,e.new⟩++ [St e.note] by simp[entC,updC]]
 exact List.take_left' (BT _)
def EC(l:List AM)(i:Nat):Bool:=decide (100<(l.getD i Ad).name.length)||decide (400<(l.getD i Ad).note.length)
open Classical in
noncomputable def Cp(r:A0):Bool:=(!((decide (80<r.branches.length)||decide (80<r.tags.length))||decide (80<r.log.length)))&&decide (∀j,j<r.log.length→EC r.log j=false)
theorem L4{r:A0}(h:((decide (80<r.branches.length)||decide (80<r.tags.length))||decide (80<r.log.length))=true):Cp r=false:=by unfold Cp;rw[h];rfl
theorem MW{r:A0}{i:Nat}(hi:i<r.log.length)(h:EC r.log i=true):Cp r=false:=by
 classical
 unfold Cp
 rw[decide_eq_false (p:=∀j,j<r.log.length→EC r.log j=false) (fun k=>by have:=k i hi;rw[h]at this;cases this),Bool.and_false]
theorem MX{r:A0}{i:Nat}(h0:((decide (80<r.branches.length)||decide (80<r.tags.length))||decide (80<r.log.length))=false)(hi:r.log.length≤i)(h:∀j,j<i→EC r.log j=false):Cp r=true:=by
 classical
 unfold Cp
 rw[h0,decide_eq_true (p:=∀j,j<r.log.length→EC r.log j=false) (fun j hj=>h j (by omega))];rfl
theorem L5:Bm Tryz.prog 27 0 0:=fun b o w=>by simp[go_sem]
theorem Fz:Tryz.prog.underlying 22=some (.slice 61):=by kernel_rfl
theorem L6:Bm Tryz.prog 27 1 1:=fun b o w=>by simp[go_sem]
theorem Eo:Bm Tryz.prog 27 4 35:=fun b o w=>by simp[go_sem]
theorem N8{d:Option Tmp}{ty:TypeId}{pos:String}{af:Array Edge}{gd:Option (Nat × Bool)}(σ:Operand→Value)(w:World):(execOp σ ⟨d, .alloc 35,ty,pos,af,gd⟩).run Tryz.prog w = .ok (.value (PQ w.heap.size 0)) (w.alloc (.cells (refsC ((⟨[],[],[],zid,[]⟩,⟨.slice none 0 0, .slice none 0 0, .slice none 0 0⟩):Ah)).toArray 35)):=by kernel_rfl
theorem Ln(z2:ByteArray)(w:World):(Instr.build 35 #[(2, .string z2)]).run Tryz.prog w = .ok (.agg #[.slice none 0 0, .slice none 0 0, .string z2, .int .u8 0, .int .u8 0, .int .u8 0, .int .u8 0, .int .u8 0, .int .u8 0, .int .u8 0, .int .u8 0, .int .u8 0, .int .u8 0, .int .u8 0, .int .u8 0, .int .u8 0, .int .u8 0, .int .u8 0, .int .u8 0, .int .u8 0, .int .u8 0, .int .u8 0, .int .u8 0, .int .u8 0, .int .u8 0, .int .u8 0, .int .u8 0, .int .u8 0, .int .u8 0, .int .u8 0, .int .u8 0, .int .u8 0, .int .u8 0, .int .u8 0, .int .u8 0, .slice none 0 0]) w:=by kernel_rfl
theorem L7(z2:List UInt8)(w:World):(Instr.build 35 #[(2,St z2)]).run Tryz.prog w = .ok (.agg ((Value.slice none 0 0) :: ((Value.slice none 0 0) :: (St (z2) :: (Lib.byteCells zid.1++((Value.slice none 0 0) :: ([])))))).toArray) w:=by
 exact Ln _ w
theorem IJ:(Tryz.prog.info? 35).map (·.size)=some 36:=by kernel_rfl
theorem N9:∃fs,Tryz.prog.underlying 35=some (.struct fs):=Dw (by kernel_rfl)
set_option maxHeartbeats 1600000
theorem L8(w:World)(y:Ah)(hm:RefsAt w y):
  Calls Tryz.prog 4 #[.agg (refsC y).toArray] w fun e w' =>e = .returned (.bool (Cp y.1))∧Ext w w' :=by
 have hmt:=hm.branches
 have hmg:=hm.tags
 have hml:=hm.log
 refine As (args:= [.agg (refsC y).toArray]) Tryz.func4 rfl 46 rfl (Nat.le_of_ble_eq_true rfl) ?_
 intro ae hb
 have k:ae 0=(.agg (refsC y).toArray:Value):=hb.get 0
 clear hb
 have hE:=Ext.refl w
 refine sk fun K1 af=>(wt (oS rfl (Yk.box (cs:=(refsC y:List Value).toArray) k fun c w3 az x ah a0=> ?_)))
 have hE:=hE.trans ah
 have f:=x;clear x
 have a1:c<w3.heap.size:=by omega
 refine oA rfl (oZ (tN (af _ _ (sk fun a2 ai=>(sk fun a3 aj=>(wt (oS rfl (Yk.fieldAt L5 (vr (PQ c 0) rfl) (oS rfl (Yk.cell1 Fz rfl (vr (PQ c 0) rfl) (Al f (show(refsC y)[0]? =some (y.2.branches:Value)from BN y)) (oS rfl (Yk.lenRG Fz (RG.of (hmt.keep hE) (vr y.2.branches rfl)) (oS rfl (Yk.eqI (a:=((y.1.branches).length:Nat)) (b:=(80:Nat)) rfl rfl (BA _ _ _ _) (oM rfl (Ac (PQ c 1) rfl rfl (gF (vr (.bool (decide ((80)<((y.1.branches).length)))) rfl)) (fun hG12=>Yk.fieldAt L6 (vr (PQ c 0) rfl) ⟨rfl,rfl⟩) (Ac (y.2.tags) rfl rfl (gF (vr (.bool (decide ((80)<((y.1.branches).length)))) rfl)) (fun hG13=>Yk.cell1 Fz rfl (Ak (vr (cond (!(decide ((80)<((y.1.branches).length)))) (PQ c 1) undef) rfl) hG13) (Al f (show(refsC y)[1]? =some (y.2.tags:Value)from B6 y)) ⟨rfl,rfl⟩) (Ac (NI ((y.1.tags).length)) rfl rfl (gF (vr (.bool (decide ((80)<((y.1.branches).length)))) rfl)) (fun hG14=>Yk.lenRG Fz (RG.of (hmg.keep hE) (Ak (vr (cond (!(decide ((80)<((y.1.branches).length)))) (y.2.tags) undef) rfl) hG14)) ⟨rfl,rfl⟩) (Ac (.bool (decide ((80)<((y.1.tags).length)))) rfl rfl (gF (vr (.bool (decide ((80)<((y.1.branches).length)))) rfl)) (fun hG15=>Yk.eqI (a:=(((y.1.tags).length:Nat):Int)) (b:=((80:Nat):Int)) (Ak (vr (cond (!(decide ((80)<((y.1.branches).length)))) (NI ((y.1.tags).length)) undef) rfl) hG15) (vr (NI 80) rfl) (BA _ .i64 ((y.1.tags).length) (80)) ⟨rfl,rfl⟩) (oS rfl (Yk.pickOrN (vr (.bool (decide ((80)<((y.1.branches).length)))) rfl) (vr (.bool (true)) rfl) (fun hA=>(Ak (vr (cond (!(decide ((80)<((y.1.branches).length)))) (.bool (decide ((80)<((y.1.tags).length)))) undef) rfl) (Bb hA))) fun bb16 hbb17=> ?_)))))))))))))))))))))
 refine oM rfl (Ac (PQ c 35) rfl rfl (gF (vr (.bool (bb16)) rfl)) (fun hG18=>Yk.fieldAt Eo (vr (PQ c 0) rfl) ⟨rfl,rfl⟩) (Ac (y.2.log) rfl rfl (gF (vr (.bool (bb16)) rfl)) (fun hG19=>Yk.cell1 EA rfl (Ak (vr (cond (!bb16) (PQ c 35) undef) rfl) hG19) (Al f (show(refsC y)[35]? =some (y.2.log:Value)from Bn y)) ⟨rfl,rfl⟩) (Ac (NI ((y.1.log).length)) rfl rfl (gF (vr (.bool (bb16)) rfl)) (fun hG20=>Yk.lenRG EA (RG.of (hml.keep hE) (Ak (vr (cond (!bb16) (y.2.log) undef) rfl) hG20)) ⟨rfl,rfl⟩) (Ac (.bool (decide ((80)<((y.1.log).length)))) rfl rfl (gF (vr (.bool (bb16)) rfl)) (fun hG21=>Yk.eqI (a:=(((y.1.log).length:Nat):Int)) (b:=((80:Nat):Int)) (Ak (vr (cond (!bb16) (NI ((y.1.log).length)) undef) rfl) hG21) (vr (NI 80) rfl) (BA _ .i64 ((y.1.log).length) (80)) ⟨rfl,rfl⟩) (oS rfl (Yk.pickOrN (vr (.bool (bb16)) rfl) (vr (.bool (true)) rfl) (fun hA=>(Ak (vr (cond (!bb16) (.bool (decide ((80)<((y.1.log).length)))) undef) rfl) (Bb hA))) fun bb22 hbb23=>(oZ (tN (aj _ _ ?_)))))))))
 refine AW (bb22) (vr (.bool (bb22)) rfl) (fun t=> ?_) (fun t=> ?_)
 ·subst hbb17 hbb23
  have h0c:((decide (80<y.1.branches.length)||decide (80<y.1.tags.length))||decide (80<y.1.log.length))=true:=t
  refine sk fun a4 ak=>(wt (oA rfl (oZ (tN (ak _ _ (Am (An (Aj (fn:=Tryz.f4) _ rfl [.bool (false)] (.bool (false)) rfl ⟨rfl,trivial⟩ ?_))))))))
  exact⟨by rw[L4 h0c],hE⟩
 subst hbb17 hbb23
 have h0c:((decide (80<y.1.branches.length)||decide (80<y.1.tags.length))||decide (80<y.1.log.length))=false:=t
 have hc:=NM h0c
 refine Aq (tN (ai _ _ (sk fun a5 al=>(sk fun a6 am=>(wt (oA rfl (A3 [(0, .agg (refsC y).toArray),(1,PQ c 0),(2, .bool (false)),(3,NI 0)] ⟨k,rfl,rfl,rfl,trivial⟩ fun a7 ⟨k,m,T2,g,_⟩=>(tN (am _ _ (Av (A4 (fun(ρ:Au) (wz:World)=>∃i:Nat,ρ 0=(.agg (refsC y).toArray:Value)∧ρ 1=(PQ c 0:Value)∧ρ 3=(NI i:Value)∧Ext w wz∧wz.heap[c]? =some (.cells (refsC y).toArray 27 (0,0))∧(i≤y.1.log.length)∧(∀j,j<i→EC y.1.log j=false)∧True) (fun ρ _=>y.1.log.length-(intOf (ρ 3)).toNat) ⟨0,k,m,g,hE,f,Nat.zero_le _,fun j hj=>absurd hj (Nat.not_lt_zero _),trivial⟩ ?_)))))))))))
 clear hE f
 rintro an p ⟨i,k,m,g,hE,f,hi,hn,-⟩
 have q3:=g
 refine sk fun a9 ao=>(sk fun ba ap=>(wt (oM rfl (oS rfl (Yk.fieldAt Eo m (oS rfl (Yk.cell1 EA rfl (vr (PQ c 35) rfl) (Al f (show(refsC y)[35]? =some (y.2.log:Value)from Bn y)) (oS rfl (Yk.lenRG EA (RG.of (hml.keep hE) (vr y.2.log rfl)) (oS rfl (Yk.eqI (a:=(i:Nat)) (b:=((y.1.log).length:Nat)) g rfl (AX _ _ _ _) (oZ (tN (ap _ _ ?_))))))))))))))
 refine AL ((i)<((y.1.log).length)) (vr (.bool (decide ((i)<((y.1.log).length)))) rfl) (fun z=> ?_) (fun z=> ?_)
 ·have hlt:i<y.1.log.length:=z
  refine Aq (tN (ao _ _ (sk fun bb aq=>(Av (sk fun bc ar=>(wt (oS rfl (Yk.fieldAt Eo m (oS rfl (Yk.cell1 EA rfl (vr (PQ c 35) rfl) (Al f (show(refsC y)[35]? =some (y.2.log:Value)from Bn y)) (oM rfl ?_)))))))))))
  have bd:(entC ((y.1.log).getD (i) Ad)).length=67:=(RG.elem (hml.keep hE) Ad (by omega))
  refine oS rfl (Yk.atRG EA MM (by decide) Ad (RG.of (hml.keep hE) (vr y.2.log rfl)) g (by omega) fun au aa=>(oS rfl (Yk.fieldPR (n:=66) HN (PR.of aa (vr au rfl)) fun ab r=> ?_)))
  have r:PR (updC (⟨((y.1.log).getD (i) Ad).kind,((y.1.log).getD (i) Ad).name,((y.1.log).getD (i) Ad).old,((y.1.log).getD (i) Ad).new⟩:Ba)) ab p:=(Qx ((y.1.log).getD (i) Ad))▸r
  refine oS rfl (Yk.fieldPR (n:=1) LY (PR.of r (vr ab rfl)) fun ac s=> ?_)
  have s:PCell (St (((⟨((y.1.log).getD (i) Ad).kind,((y.1.log).getD (i) Ad).name,((y.1.log).getD (i) Ad).old,((y.1.log).getD (i) Ad).new⟩:Ba)).name)) ac p:=PR.pcell ((QX (⟨((y.1.log).getD (i) Ad).kind,((y.1.log).getD (i) Ad).name,((y.1.log).getD (i) Ad).old,((y.1.log).getD (i) Ad).new⟩:Ba))▸s)
  refine oS rfl (Yk.loadC DT rfl (PCell.of s (vr ac rfl)) (oS rfl (Yk.lenSt (l:=((⟨((y.1.log).getD (i) Ad).kind,((y.1.log).getD (i) Ad).name,((y.1.log).getD (i) Ad).old,((y.1.log).getD (i) Ad).new⟩:Ba)).name) DT (vr (St (((⟨((y.1.log).getD (i) Ad).kind,((y.1.log).getD (i) Ad).name,((y.1.log).getD (i) Ad).old,((y.1.log).getD (i) Ad).new⟩:Ba)).name)) rfl) (oS rfl (Yk.eqI (a:=((((⟨((y.1.log).getD (i) Ad).kind,((y.1.log).getD (i) Ad).name,((y.1.log).getD (i) Ad).old,((y.1.log).getD (i) Ad).new⟩:Ba)).name:List UInt8).length:Nat)) (b:=(100:Nat)) rfl rfl (BA _ _ _ _) (oM rfl (Ac (PQ c 35) rfl rfl (gF (vr (.bool (decide ((100)<((((⟨((y.1.log).getD (i) Ad).kind,((y.1.log).getD (i) Ad).name,((y.1.log).getD (i) Ad).old,((y.1.log).getD (i) Ad).new⟩:Ba)).name:List UInt8).length)))) rfl)) (fun hG41=>Yk.fieldAt Eo m ⟨rfl,rfl⟩) (Ac (y.2.log) rfl rfl (gF (vr (.bool (decide ((100)<((((⟨((y.1.log).getD (i) Ad).kind,((y.1.log).getD (i) Ad).name,((y.1.log).getD (i) Ad).old,((y.1.log).getD (i) Ad).new⟩:Ba)).name:List UInt8).length)))) rfl)) (fun hG42=>Yk.cell1 EA rfl (Ak (vr (cond (!(decide ((100)<((((⟨((y.1.log).getD (i) Ad).kind,((y.1.log).getD (i) Ad).name,((y.1.log).getD (i) Ad).old,((y.1.log).getD (i) Ad).new⟩:Ba)).name:List UInt8).length)))) (PQ c 35) undef) rfl) hG42) (Al f (show(refsC y)[35]? =some (y.2.log:Value)from Bn y)) ⟨rfl,rfl⟩) (Ac (NI i) rfl rfl (gF (vr (.bool (decide ((100)<((((⟨((y.1.log).getD (i) Ad).kind,((y.1.log).getD (i) Ad).name,((y.1.log).getD (i) Ad).old,((y.1.log).getD (i) Ad).new⟩:Ba)).name:List UInt8).length)))) rfl)) (fun hG43=>Yk.move g ⟨rfl,rfl⟩) ?_)))))))))
  have be:(!(decide ((100)<((((⟨((y.1.log).getD (i) Ad).kind,((y.1.log).getD (i) Ad).name,((y.1.log).getD (i) Ad).old,((y.1.log).getD (i) Ad).new⟩:Ba)).name:List UInt8).length))))=true→(entC ((y.1.log).getD (i) Ad)).length=67:=fun hG44=>(RG.elem (hml.keep hE) Ad (by simp only[gA,gB,gC,gD,gE]at hG44;omega))
  refine GV (fun u=>PR (entC ((y.1.log).getD (i) Ad)) u p) rfl rfl (gF (vr (.bool (decide ((100)<((((⟨((y.1.log).getD (i) Ad).kind,((y.1.log).getD (i) Ad).name,((y.1.log).getD (i) Ad).old,((y.1.log).getD (i) Ad).new⟩:Ba)).name:List UInt8).length)))) rfl)) (fun hG44=>Yk.atRG EA MM (by decide) Ad (RG.of (hml.keep hE) (Ak (vr (cond (!(decide ((100)<((((⟨((y.1.log).getD (i) Ad).kind,((y.1.log).getD (i) Ad).name,((y.1.log).getD (i) Ad).old,((y.1.log).getD (i) Ad).new⟩:Ba)).name:List UInt8).length)))) (y.2.log) undef) rfl) hG44)) (Ak (vr (cond (!(decide ((100)<((((⟨((y.1.log).getD (i) Ad).kind,((y.1.log).getD (i) Ad).name,((y.1.log).getD (i) Ad).old,((y.1.log).getD (i) Ad).new⟩:Ba)).name:List UInt8).length)))) (NI i) undef) rfl) hG44) (by simp only[gA,gB,gC,gD,gE]at hG44;omega) fun _ h=>⟨h,rfl⟩) fun u ad=> ?_
  refine GV (fun q=>PCell (St (((y.1.log).getD (i) Ad).note)) q p) rfl rfl (gF (vr (.bool (decide ((100)<((((⟨((y.1.log).getD (i) Ad).kind,((y.1.log).getD (i) Ad).name,((y.1.log).getD (i) Ad).old,((y.1.log).getD (i) Ad).new⟩:Ba)).name:List UInt8).length)))) rfl)) (fun hG48=> ?_) fun q o=> ?_
  ·refine Yk.fieldPR (n:=1) LX (PR.of (ad hG48) (vr u rfl)) fun q o=> ?_
   have o:PCell (St (((y.1.log).getD (i) Ad).note)) q p:=PR.pcell ((QY ((y.1.log).getD (i) Ad))▸o)
   exact⟨o,rfl⟩
  refine Ac (St (((y.1.log).getD (i) Ad).note)) rfl rfl (gF (vr (.bool (decide ((100)<((((⟨((y.1.log).getD (i) Ad).kind,((y.1.log).getD (i) Ad).name,((y.1.log).getD (i) Ad).old,((y.1.log).getD (i) Ad).new⟩:Ba)).name:List UInt8).length)))) rfl)) (fun hG51=>Yk.loadC DT rfl (PCell.of (o hG51) (vr q rfl)) ⟨rfl,rfl⟩) (Ac (NI ((((y.1.log).getD (i) Ad).note:List UInt8).length)) rfl rfl (gF (vr (.bool (decide ((100)<((((⟨((y.1.log).getD (i) Ad).kind,((y.1.log).getD (i) Ad).name,((y.1.log).getD (i) Ad).old,((y.1.log).getD (i) Ad).new⟩:Ba)).name:List UInt8).length)))) rfl)) (fun hG52=>Yk.lenSt (l:=((y.1.log).getD (i) Ad).note) DT (Ak (vr (cond (!(decide ((100)<((((⟨((y.1.log).getD (i) Ad).kind,((y.1.log).getD (i) Ad).name,((y.1.log).getD (i) Ad).old,((y.1.log).getD (i) Ad).new⟩:Ba)).name:List UInt8).length)))) (St (((y.1.log).getD (i) Ad).note)) undef) rfl) hG52) ⟨rfl,rfl⟩) (Ac (.bool (decide ((400)<((((y.1.log).getD (i) Ad).note:List UInt8).length)))) rfl rfl (gF (vr (.bool (decide ((100)<((((⟨((y.1.log).getD (i) Ad).kind,((y.1.log).getD (i) Ad).name,((y.1.log).getD (i) Ad).old,((y.1.log).getD (i) Ad).new⟩:Ba)).name:List UInt8).length)))) rfl)) (fun hG53=>Yk.eqI (a:=(((((y.1.log).getD (i) Ad).note:List UInt8).length:Nat):Int)) (b:=((400:Nat):Int)) (Ak (vr (cond (!(decide ((100)<((((⟨((y.1.log).getD (i) Ad).kind,((y.1.log).getD (i) Ad).name,((y.1.log).getD (i) Ad).old,((y.1.log).getD (i) Ad).new⟩:Ba)).name:List UInt8).length)))) (NI ((((y.1.log).getD (i) Ad).note:List UInt8).length)) undef) rfl) hG53) (vr (NI 400) rfl) (BA _ .i64 ((((y.1.log).getD (i) Ad).note:List UInt8).length) (400)) ⟨rfl,rfl⟩) (oS rfl (Yk.pickOrN (vr (.bool (decide ((100)<((((⟨((y.1.log).getD (i) Ad).kind,((y.1.log).getD (i) Ad).name,((y.1.log).getD (i) Ad).old,((y.1.log).getD (i) Ad).new⟩:Ba)).name:List UInt8).length)))) rfl) (vr (.bool (true)) rfl) (fun hA=>(Ak (vr (cond (!(decide ((100)<((((⟨((y.1.log).getD (i) Ad).kind,((y.1.log).getD (i) Ad).name,((y.1.log).getD (i) Ad).old,((y.1.log).getD (i) Ad).new⟩:Ba)).name:List UInt8).length)))) (.bool (decide ((400)<((((y.1.log).getD (i) Ad).note:List UInt8).length)))) undef) rfl) (Bb hA))) fun bb54 hbb55=>(oZ ?_)))))
  clear aa
  clear r
  clear s
  clear ad
  clear o
  refine tN (ar _ _ ?_)
  refine AW (bb54) (vr (.bool (bb54)) rfl) (fun v=> ?_) (fun v=> ?_)
  ·subst hbb55
   have hbad:EC y.1.log i=true:=v
   refine sk fun bf av=>(wt (oA rfl (oZ (tN (av _ _ (Am (AE (An (An (AE (An (Aj (fn:=Tryz.f4) _ rfl [.bool (false)] (.bool (false)) rfl ⟨rfl,trivial⟩ ?_))))))))))))
   exact⟨by rw[MW hlt hbad],hE⟩
  subst hbb55
  have hbad:EC y.1.log i=false:=v
  refine Aq (bN (tN (aq _ _ (wt (oM rfl (oS rfl (Yk.bin (xv:=NI i) (yv:=NI 1) g rfl rfl (AA _ _ _ (by omega)) (oA rfl (A3 [(0, .agg (refsC y).toArray),(1,PQ c 0),(3,NI ((i)+(1)))] ⟨k,m,rfl,trivial⟩ fun aw ⟨k,m,g,_⟩=>(tN (And.intro ⟨i+1,k,m,g,hE,f,by omega,F1 hn hbad,trivial⟩ ?_)))))))))))
  show y.1.log.length-(intOf (aw 3)).toNat<y.1.log.length-(intOf (an 3)).toNat
  rw[g,q3]
  simp only[intOf,Int.toNat_natCast];omega
 refine AP (Ar (Ar (Az (tN (al _ _ (sk fun bg ax=>(wt (oA rfl (oZ (tN (ax _ _ (Am (Aj (fn:=Tryz.f4) _ rfl [.bool (true)] (.bool (true)) rfl ⟨rfl,trivial⟩ ?_)))))))))))))
 exact⟨by rw[MX h0c (show y.1.log.length≤i by omega) hn],hE⟩

theorem Oa(w:World):
  Calls Tryz.prog 30 #[] w fun e w' =>e = .returned (.agg (refsC Dx).toArray)∧Ext w w' :=by
 refine As (args:= []) Tryz.func30 rfl 2 rfl (Nat.le_of_ble_eq_true rfl) ?_
 intro m hb
 clear hb
 have hE:=Ext.refl w
 refine sk fun n g=>(wt (oS rfl (Yk.alloc (cs:=(refsC ((⟨[],[],[],zid,[]⟩,⟨.slice none 0 0, .slice none 0 0, .slice none 0 0⟩):Ah)).toArray) N8 fun b h o c i p=> ?_)))
 have hE:=hE.trans i
 have a:=c;clear c
 have q:b<h.heap.size:=by omega
 refine oZ (tN (g _ _ (sk fun r j=>(wt (oS rfl (Yk.build1 (vr (St (([109,97,105,110]:List UInt8))) rfl) (fun w=>L7 ([109,97,105,110]:List UInt8) w) (oS rfl (Yk.storeAll (vr (PQ b 0) rfl) (vr (.agg (refsC ((⟨[],[],([109,97,105,110]:List UInt8),zid,[]⟩,⟨(Value.slice none 0 0),(Value.slice none 0 0),(Value.slice none 0 0)⟩):Ah)).toArray) rfl) a (by simp only[List.size_toArray,Ao]) (AC (Ao _) IJ) (Br (x:=((⟨[],[],([109,97,105,110]:List UInt8),zid,[]⟩,⟨(Value.slice none 0 0),(Value.slice none 0 0),(Value.slice none 0 0)⟩):Ah)) rfl rfl rfl) fun k f l s=> ?_))))))))
 have hE:=Af hE l (Nat.le_trans (Nat.le_refl _) (by omega))
 clear a
 have a:k.heap[b]? =some (.cells (refsC ((⟨[],[],([109,97,105,110]:List UInt8),zid,[]⟩,⟨(Value.slice none 0 0),(Value.slice none 0 0),(Value.slice none 0 0)⟩):Ah)).toArray 35 (0,0)):=f;clear f
 have t:=bl a
 refine oZ (tN (j _ _ (Am (Aj (fn:=Tryz.f30) _ rfl [.agg (refsC ((⟨[],[],([109,97,105,110]:List UInt8),zid,[]⟩,⟨(Value.slice none 0 0),(Value.slice none 0 0),(Value.slice none 0 0)⟩):Ah)).toArray] (.agg (refsC ((⟨[],[],([109,97,105,110]:List UInt8),zid,[]⟩,⟨(Value.slice none 0 0),(Value.slice none 0 0),(Value.slice none 0 0)⟩):Ah)).toArray) rfl ⟨ResF.row rfl a (N9).choose_spec rfl (AC (Ao _) IJ),trivial⟩ ?_))))
 exact⟨rfl,hE⟩

open Go.RowKit
def Lo(r:A0)(y:Ba):Bool:=((decide ((Aw r.branches y).1=0)&&Ai y.new)&&(!Ai y.old))&&decide (r.head=y.name)
def CV(r:A0)(y:Ba):Nat × A0:=if Lo r y=true then(16,r)else if(Aw r.branches y).1=0 then(0,⟨(Aw r.branches y).2,r.tags,r.head,r.at_,r.log⟩)else((Aw r.branches y).1,r)
def FN(r:A0)(y:Ba):Nat × A0:=if(Aw r.tags y).1=0 then(0,⟨r.branches,(Aw r.tags y).2,r.head,r.at_,r.log⟩)else((Aw r.tags y).1,r)
def KH(r:A0)(y:Ba):Nat × A0:=(0,⟨r.branches,r.tags,y.name,y.new,r.log⟩)
def Cd(r:A0)(y:Ba):Nat × A0:=if y.kind.toNat=1 then CV r y else if y.kind.toNat=2 then FN r y else KH r y
structure AppAt (w0 w : World) (g : Nat) (z : Ah) : Prop where
  ext:Ext w0 w
  g0:w0.heap.size≤g
  blk:w.heap[g]? =some (.cells (refsC z).toArray 35 (0,0))
  br:OG w0.heap.size 60 33 nmdC w z.2.branches z.1.branches
  tg:OG w0.heap.size 60 33 nmdC w z.2.tags z.1.tags
  lg:OG w0.heap.size 50 67 entC w z.2.log z.1.log
  ab:z.2.branches.ownBlock≠some g
  at_:z.2.tags.ownBlock≠some g
  al:z.2.log.ownBlock≠some g
  lb:CD z.2.log z.2.branches
  lt:CD z.2.log z.2.tags
theorem AppAt.keep{w0 w w' :World}{g:Nat}{z:Ah}(h:AppAt w0 w g z)(k:Ext w w'):AppAt w0 w' g z:=⟨h.ext.trans k,h.g0,Ext.blk' k h.blk,h.br.keep k,h.tg.keep k,h.lg.keep k,h.ab,h.at_,h.al,h.lb,h.lt⟩
structure Ei (r : A0) : Prop where
  br:Dj r.branches
  tg:Dj r.tags
  bl:r.branches.length≤64
  tl:r.tags.length≤64
open Go.RowKit
set_option maxRecDepth 100000
def NewOG(t:TypeId)(w0 wb w:World)(v:Value)(l:List AK):Prop:=OG w0.heap.size t 33 nmdC w v l∧∀k,v.ownBlock=some k→wb.heap.size≤k
theorem NewOG.keep{t:TypeId}{w0 wb w w' :World}{v:Value}{l:List AK}(h:NewOG t w0 wb w v l)(k:Ext w w'):NewOG t w0 wb w' v l:=⟨h.1.keep k,h.2⟩
theorem NewOG.of{t:TypeId}{w0 wb w1 w:World}{v:Value}{l:List AK}(h:OG w1.heap.size t 33 nmdC w v l)(h0:w0.heap.size≤wb.heap.size)(h1:wb.heap.size≤w1.heap.size):NewOG t w0 wb w v l:=⟨h.low (Nat.le_trans h0 h1),fun k hk=>Nat.le_trans h1 (h.2.lt k hk).1⟩
theorem NewOG.apart{t:TypeId}{w0 wb w:World}{v:Value}{l:List AK}{g:Nat}(h:NewOG t w0 wb w v l)(hg:g<wb.heap.size):v.ownBlock≠some g:=fun e=>by have:=h.2 g e;omega
theorem NewOG.apartv{α:Type}{t t' :TypeId}{w0 wb w wa:World}{v u:Value}{l:List AK}{b k:Nat}{enc:α→List Value}{m:List α}(h:NewOG t w0 wb w v l)(hu:OG b t' k enc wa u m)(hle:wa.heap.size≤wb.heap.size):CD u v:=fun i h1 h2=>by
 have:=(hu.2.lt i h1).2
 have:=h.2 i h2
 omega
abbrev JJ(f:Nat):Value:= .func (.func f) #[] #[]
def doG:UInt8→Option Nat:=updM (updM (updM (fun _=>none) 1 (some 69)) 2 (some 70)) 3 (some 71)
theorem Q5:∀u:World,(zeroValue 106).run Tryz.prog u = .ok Value.nilFunc u:=fun _=>by kernel_rfl
theorem JK:∃fs,Tryz.prog.underlying 48=some (.struct fs):=Dw (by kernel_rfl)
theorem IK:(Tryz.prog.info? 48).map (·.size)=some 66:=by kernel_rfl
theorem JL:AI Tryz.prog 80:=fun _ _=>by kernel_rfl
theorem IL:(Tryz.prog.info? 33).map (·.size)=some 1:=by kernel_rfl
theorem Ob:(Tryz.prog.info? 9).map (·.size)=some 1:=by kernel_rfl
theorem Gl:Tryz.prog.underlying 103=some (.map 5 106):=by kernel_rfl
set_option maxHeartbeats 1600000
theorem MY(w0 w:World)(g:Nat)(z:Ah)(hA:AppAt w0 w g z)(hS:Ei z.1)(y:Ba):
  Calls Tryz.prog 69 #[PQ g 0, .agg (updC y).toArray] w fun e w' =>∃z',(e = .returned (NI (CV z.1 y).1)∧z'.1=(CV z.1 y).2)∧AppAt w0 w' g z' ∧z'.2.log=z.2.log∧w.grownBy w' (some g):=by
 have hgr:=World.grownBy.refl w (some g)
 have c:=hA.ext
 have ai:=hA.g0
 have hblk:=hA.blk
 have hbr:=hA.br
 have htg:=hA.tg
 have hlg:=hA.lg
 have hab:=hA.ab
 have hat:=hA.at_
 have hal:=hA.al
 have hlb:=hA.lb
 have hlt:=hA.lt
 have hlg0:=hA.lg
 have hgl:=(bl hblk)
 refine As (args:= [PQ g 0, .agg (updC y).toArray]) Tryz.func69 rfl 45 rfl (Nat.le_of_ble_eq_true rfl) ?_
 intro ap hb
 have j:ap 0=(PQ g 0:Value):=hb.get 0
 have T1:ap 1=(.agg (updC y).toArray:Value):=hb.get 1
 clear hb
 have hE:=Ext.refl w
 refine sk fun K1 a0=>(wt (oS rfl (Yk.box (cs:=(updC y:List Value).toArray) T1 fun r f a1 aq s cd=> ?_)))
 have ce:=hE.size
 have cf:=c.size
 have cg:=Bc (bl hblk) a1
 have hblk:=eb s hblk
 have hbr:=hbr.keep s
 have htg:=htg.keep s
 have hlg:=hlg.keep s
 have hgr:w.grownBy f (some g):=Ab hgr s.grown (fun _ e=>by cases e)
 have c:=c.trans s
 have t:=aq;clear aq
 have ch:r<f.heap.size:=by omega
 refine oA rfl (oZ (tN (a0 _ _ (sk fun ci a2=> ?_))))
 refine Bw [Is (PQ g 0),Is (PQ g 0),Is (PQ g 0),Is (z.2.branches),Is (.agg (updC y).toArray),fun x w' =>∃v,x = .tuple #[v,NI (Aw z.1.branches y).1]∧NewOG 60 w0 f w' v ((Aw z.1.branches y).2),fun x w' =>∃v,x = .tuple #[v,NI (Aw z.1.branches y).1]∧NewOG 60 w0 f w' v ((Aw z.1.branches y).2),fun x w' =>NewOG 60 w0 f w' x ((Aw z.1.branches y).2),Is (NI ((Aw z.1.branches y).1)),fun x w' =>NewOG 60 w0 f w' x ((Aw z.1.branches y).2),Is (NI ((Aw z.1.branches y).1))] (by kernel_rfl) [8,9,10,11,12,13,7,14,15,5,6] (by kernel_rfl) (by kernel_rfl) (Mh ⟨(fun _ _ _ ⟨v,h1,h2⟩ k=>⟨v,h1,h2.keep k⟩),(fun _ _ _ ⟨v,h1,h2⟩ k=>⟨v,h1,h2.keep k⟩),(fun _ _ _ h k=>NewOG.keep h k),Stab.is _,(fun _ _ _ h k=>NewOG.keep h k),Stab.is _,trivial⟩) ?a3 ?hQ1001
 case a3=>
  refine⟨?_,?_,?_,?_,?_,?_,?_,?_,?_,?_,?_,trivial⟩
  ·refine Aa rfl fun σ w1 hC h=> ?_
   have e0:=(Ae (h 0 (by decide))).trans j
   exact Yk.move e0 ⟨Ext.refl _,rfl⟩
  ·refine Aa rfl fun σ w1 hC h=> ?_
   have e8:=Ae (h 8 (by decide))
   exact Yk.nilCheck e8 ⟨Ext.refl _,rfl⟩
  ·refine Aa rfl fun σ w1 hC h=> ?_
   have e9:=Ae (h 9 (by decide))
   exact Yk.fieldAt LU e9 ⟨Ext.refl _,rfl⟩
  ·refine Aa rfl fun σ w1 hC h=> ?_
   have a6:=Ae (h 10 (by decide))
   exact Yk.cell1 D5 rfl a6 (Al (eb hC hblk) (show(refsC z)[0]? =some (z.2.branches:Value)from BN z)) ⟨Ext.refl _,rfl⟩
  ·refine Aa rfl fun σ w1 hC h=> ?_
   have n:σ 3=PQ r 0:=(Ae (h 3 (by decide))).trans rfl
   exact Yk.loadAll n (eb hC t) (JK).choose_spec rfl (AC (BT y) IK) ⟨Ext.refl _,rfl⟩
  ·refine Aa rfl fun σ w1 hC h=> ?_
   have a7:=Ae (h 11 (by decide))
   have a8:=Ae (h 12 (by decide))
   refine Yk.callA2 JL a7 a8 ((II _ z.2.branches z.1.branches (RG.ofOwn (hbr.keep hC)) (by have:=hS.bl;omega) hS.br y).mono ?_)
   rintro e w2 ⟨v,rfl,ho,hx⟩
   exact⟨_,rfl,hx,v,rfl,NewOG.of ho c.size hC.size⟩
  ·refine Aa rfl fun σ w1 hC h=> ?_
   have a9:(fun x w' =>∃v,x = .tuple #[v,NI (Aw z.1.branches y).1]∧NewOG 60 w0 f w' v ((Aw z.1.branches y).2)) (σ 13) w1:=h 13 (by decide)
   exact Yk.move rfl ⟨Ext.refl _,a9⟩
  ·refine Aa rfl fun σ w1 hC h=> ?_
   have e7:(fun x w' =>∃v,x = .tuple #[v,NI (Aw z.1.branches y).1]∧NewOG 60 w0 f w' v ((Aw z.1.branches y).2)) (σ 7) w1:=h 7 (by decide)
   obtain⟨v0,h1_,h2_⟩:=e7
   exact Yk.extract (vs:= [v0,_]) h1_ (show _=some v0 from rfl) ⟨Ext.refl _,h2_⟩
  ·refine Aa rfl fun σ w1 hC h=> ?_
   have e7:(fun x w' =>∃v,x = .tuple #[v,NI (Aw z.1.branches y).1]∧NewOG 60 w0 f w' v ((Aw z.1.branches y).2)) (σ 7) w1:=h 7 (by decide)
   obtain⟨v0,h1_,h2_⟩:=e7
   exact Yk.extract (vs:= [v0,NI (Aw z.1.branches y).1]) h1_ (show _=some (NI (Aw z.1.branches y).1:Value)from rfl) ⟨Ext.refl _,rfl⟩
  ·refine Aa rfl fun σ w1 hC h=> ?_
   have ba:(fun x w' =>NewOG 60 w0 f w' x ((Aw z.1.branches y).2)) (σ 14) w1:=h 14 (by decide)
   exact Yk.assign rfl ⟨Ext.refl _,ba⟩
  ·refine Aa rfl fun σ w1 hC h=> ?_
   have bb:=Ae (h 15 (by decide))
   exact Yk.assign bb ⟨Ext.refl _,rfl⟩
 intro am au o he hf
 obtain⟨-,-,-,-,-,-,-,-,-,k5,k6,-⟩:=hf
 obtain⟨j,T1,T3,T4,-⟩:=he.hold [(0,_),(1,_),(3,PQ r 0),(4,NI 0)] ⟨j,T1,rfl,rfl,trivial⟩ rfl
 clear he
 have hblk:=eb o hblk
 have hbr:=hbr.keep o
 have htg:=htg.keep o
 have hlg:=hlg.keep o
 have hgr:w.grownBy au (some g):=Ab hgr o.grown (fun _ e=>by cases e)
 have c:=c.trans o
 have t:=eb o t
 have k5:(fun x w' =>NewOG 60 w0 f w' x ((Aw z.1.branches y).2)) (am 5) au:=k5
 obtain⟨u,T5⟩:∃v,am 5=v:=⟨_,rfl⟩
 rw[T5]at k5
 have ah:=k5;clear k5
 have aw:OB u g:=NewOG.apart ah (by omega)
 have bc:CD z.2.log u:=NewOG.apartv ah hlg0 (by omega)
 have p:=ah.1;clear ah
 have T6:am 6=NI ((Aw z.1.branches y).1):=k6
 clear k6
 refine tN (a2 _ _ (sk fun cj bd=>(sk fun ck be=> ?_)))
 refine Bw [Is (NI ((Aw z.1.branches y).1)),Is (.bool (decide (((Aw z.1.branches y).1:Nat)=(0)))),Is (.bool (decide (((Aw z.1.branches y).1:Nat)=(0)))),Is (cond ((decide (((Aw z.1.branches y).1:Nat)=(0)))) (PQ r 34) undef),Is (cond ((decide (((Aw z.1.branches y).1:Nat)=(0)))) (AB y.new.1) undef),Is (cond ((decide (((Aw z.1.branches y).1:Nat)=(0)))) (.bool (Ai y.new)) undef),Is (.bool ((decide (((Aw z.1.branches y).1:Nat)=(0)))&&(Ai y.new))),Is (.bool ((decide (((Aw z.1.branches y).1:Nat)=(0)))&&(Ai y.new))),Is (cond ((decide (((Aw z.1.branches y).1:Nat)=(0)))&&(Ai y.new)) (PQ r 2) undef),Is (cond ((decide (((Aw z.1.branches y).1:Nat)=(0)))&&(Ai y.new)) (AB y.old.1) undef),Is (cond ((decide (((Aw z.1.branches y).1:Nat)=(0)))&&(Ai y.new)) (.bool (Ai y.old)) undef),Is (cond ((decide (((Aw z.1.branches y).1:Nat)=(0)))&&(Ai y.new)) (.bool (!(Ai y.old))) undef),Is (.bool (((decide (((Aw z.1.branches y).1:Nat)=(0)))&&(Ai y.new))&&(!(Ai y.old)))),Is (.bool (((decide (((Aw z.1.branches y).1:Nat)=(0)))&&(Ai y.new))&&(!(Ai y.old)))),Is (cond (((decide (((Aw z.1.branches y).1:Nat)=(0)))&&(Ai y.new))&&(!(Ai y.old))) (PQ g 0) undef),Is (cond (((decide (((Aw z.1.branches y).1:Nat)=(0)))&&(Ai y.new))&&(!(Ai y.old))) (PQ g 0) undef),Is (cond (((decide (((Aw z.1.branches y).1:Nat)=(0)))&&(Ai y.new))&&(!(Ai y.old))) (PQ g 2) undef),Is (cond (((decide (((Aw z.1.branches y).1:Nat)=(0)))&&(Ai y.new))&&(!(Ai y.old))) (St (z.1.head)) undef),Is (cond (((decide (((Aw z.1.branches y).1:Nat)=(0)))&&(Ai y.new))&&(!(Ai y.old))) (PQ r 1) undef),Is (cond (((decide (((Aw z.1.branches y).1:Nat)=(0)))&&(Ai y.new))&&(!(Ai y.old))) (St (y.name)) undef),Is (cond (((decide (((Aw z.1.branches y).1:Nat)=(0)))&&(Ai y.new))&&(!(Ai y.old))) (.bool (decide ((z.1.head:List UInt8)=(y.name:List UInt8)))) undef),Is (.bool ((((decide (((Aw z.1.branches y).1:Nat)=(0)))&&(Ai y.new))&&(!(Ai y.old)))&&(decide ((z.1.head:List UInt8)=(y.name:List UInt8)))))] (by kernel_rfl) [16,17,18,19,20,21,22,23,24,25,26,27,28,29,30,31,32,33,34,35,36,37] (by kernel_rfl) (by kernel_rfl) (KO (CG trivial)) ?bf ?hQ2002
 case bf=>
  refine⟨?_,?_,?_,?_,?_,?_,?_,?_,?_,?_,?_,?_,?_,?_,?_,?_,?_,?_,?_,?_,?_,?_,trivial⟩
  ·refine Aa rfl fun σ w1 hC h=> ?_
   have e6:=(Ae (h 6 (by decide))).trans T6
   exact Yk.move e6 ⟨Ext.refl _,rfl⟩
  ·refine Aa rfl fun σ w1 hC h=> ?_
   have bh:=Ae (h 16 (by decide))
   exact Yk.eqI (a:=((Aw z.1.branches y).1:Nat)) (b:=(0:Nat)) bh rfl (A2 _ _ _ _) ⟨Ext.refl _,rfl⟩
  ·refine Aa rfl fun σ w1 hC h=> ?_
   have bi:=Ae (h 17 (by decide))
   exact Yk.move bi ⟨Ext.refl _,rfl⟩
  ·refine AY 2 true 18 (G:=(decide (((Aw z.1.branches y).1:Nat)=(0)))) rfl rfl (fun x _ (h:x = .bool (decide (((Aw z.1.branches y).1:Nat)=(0))))=>gT h) (fun hu_ _=>Bl hu_) fun hG σ w1 hC h=> ?_
   have n:=(Ae (h 3 (by decide))).trans T3
   exact Yk.fieldAt HV n ⟨Ext.refl _,Bk hG⟩
  ·refine AY 2 true 18 (G:=(decide (((Aw z.1.branches y).1:Nat)=(0)))) rfl rfl (fun x _ (h:x = .bool (decide (((Aw z.1.branches y).1:Nat)=(0))))=>gT h) (fun hu_ _=>Bl hu_) fun hG σ w1 hC h=> ?_
   have bj:=Ae (h 19 (by decide))
   exact Yk.loadPR (PR.blk (eb hC t) (Dk y) (Dl y) (Ak bj hG)) P8 rfl (At y.new.2) ⟨Ext.refl _,Bk hG⟩
  ·refine AY 2 true 18 (G:=(decide (((Aw z.1.branches y).1:Nat)=(0)))) rfl rfl (fun x _ (h:x = .bool (decide (((Aw z.1.branches y).1:Nat)=(0))))=>gT h) (fun hu_ _=>Bl hu_) fun hG σ w1 hC h=> ?_
   have bk:=Ae (h 20 (by decide))
   refine Yk.callA1 GZ (Ak bk hG) ((B9 _ y.new).mono ?_)
   rintro e w2 ⟨rfl,hx⟩
   exact⟨_,rfl,hx,Bk hG⟩
  ·refine Aa rfl fun σ w1 hC h=> ?_
   have bm:=Ae (h 18 (by decide))
   have bn:=Ae (h 21 (by decide))
   exact Yk.pickAnd bm (fun hA=>(Ak bn hA)) (vr (.bool (false)) rfl) ⟨Ext.refl _,rfl⟩
  ·refine Aa rfl fun σ w1 hC h=> ?_
   have bo:=Ae (h 22 (by decide))
   exact Yk.move bo ⟨Ext.refl _,rfl⟩
  ·refine AY 7 true 23 (G:=(decide (((Aw z.1.branches y).1:Nat)=(0)))&&(Ai y.new)) rfl rfl (fun x _ (h:x = .bool ((decide (((Aw z.1.branches y).1:Nat)=(0)))&&(Ai y.new)))=>gT h) (fun hu_ _=>Bl hu_) fun hG σ w1 hC h=> ?_
   have n:=(Ae (h 3 (by decide))).trans T3
   exact Yk.fieldAt HU n ⟨Ext.refl _,Bk hG⟩
  ·refine AY 7 true 23 (G:=(decide (((Aw z.1.branches y).1:Nat)=(0)))&&(Ai y.new)) rfl rfl (fun x _ (h:x = .bool ((decide (((Aw z.1.branches y).1:Nat)=(0)))&&(Ai y.new)))=>gT h) (fun hu_ _=>Bl hu_) fun hG σ w1 hC h=> ?_
   have bp:=Ae (h 24 (by decide))
   exact Yk.loadPR (PR.blk (eb hC t) (Fe y) (Ff y) (Ak bp hG)) P8 rfl (At y.old.2) ⟨Ext.refl _,Bk hG⟩
  ·refine AY 7 true 23 (G:=(decide (((Aw z.1.branches y).1:Nat)=(0)))&&(Ai y.new)) rfl rfl (fun x _ (h:x = .bool ((decide (((Aw z.1.branches y).1:Nat)=(0)))&&(Ai y.new)))=>gT h) (fun hu_ _=>Bl hu_) fun hG σ w1 hC h=> ?_
   have bq:=Ae (h 25 (by decide))
   refine Yk.callA1 GZ (Ak bq hG) ((B9 _ y.old).mono ?_)
   rintro e w2 ⟨rfl,hx⟩
   exact⟨_,rfl,hx,Bk hG⟩
  ·refine AY 7 true 23 (G:=(decide (((Aw z.1.branches y).1:Nat)=(0)))&&(Ai y.new)) rfl rfl (fun x _ (h:x = .bool ((decide (((Aw z.1.branches y).1:Nat)=(0)))&&(Ai y.new)))=>gT h) (fun hu_ _=>Bl hu_) fun hG σ w1 hC h=> ?_
   have bs:=Ae (h 26 (by decide))
   exact Yk.notB (Ak bs hG) ⟨Ext.refl _,Bk hG⟩
  ·refine Aa rfl fun σ w1 hC h=> ?_
   have bt:=Ae (h 23 (by decide))
   have bu:=Ae (h 27 (by decide))
   exact Yk.pickAnd bt (fun hA=>(Ak bu hA)) (vr (.bool (false)) rfl) ⟨Ext.refl _,rfl⟩
  ·refine Aa rfl fun σ w1 hC h=> ?_
   have bv:=Ae (h 28 (by decide))
   exact Yk.move bv ⟨Ext.refl _,rfl⟩
  ·refine AY 13 true 29 (G:=((decide (((Aw z.1.branches y).1:Nat)=(0)))&&(Ai y.new))&&(!(Ai y.old))) rfl rfl (fun x _ (h:x = .bool (((decide (((Aw z.1.branches y).1:Nat)=(0)))&&(Ai y.new))&&(!(Ai y.old))))=>gT h) (fun hu_ _=>Bl hu_) fun hG σ w1 hC h=> ?_
   have e0:=(Ae (h 0 (by decide))).trans j
   exact Yk.move e0 ⟨Ext.refl _,Bk hG⟩
  ·refine AY 13 true 29 (G:=((decide (((Aw z.1.branches y).1:Nat)=(0)))&&(Ai y.new))&&(!(Ai y.old))) rfl rfl (fun x _ (h:x = .bool (((decide (((Aw z.1.branches y).1:Nat)=(0)))&&(Ai y.new))&&(!(Ai y.old))))=>gT h) (fun hu_ _=>Bl hu_) fun hG σ w1 hC h=> ?_
   have bw:=Ae (h 30 (by decide))
   exact Yk.nilCheck (Ak bw hG) ⟨Ext.refl _,Bk hG⟩
  ·refine AY 13 true 29 (G:=((decide (((Aw z.1.branches y).1:Nat)=(0)))&&(Ai y.new))&&(!(Ai y.old))) rfl rfl (fun x _ (h:x = .bool (((decide (((Aw z.1.branches y).1:Nat)=(0)))&&(Ai y.new))&&(!(Ai y.old))))=>gT h) (fun hu_ _=>Bl hu_) fun hG σ w1 hC h=> ?_
   have bx:=Ae (h 31 (by decide))
   exact Yk.fieldAt FK (Ak bx hG) ⟨Ext.refl _,Bk hG⟩
  ·refine AY 13 true 29 (G:=((decide (((Aw z.1.branches y).1:Nat)=(0)))&&(Ai y.new))&&(!(Ai y.old))) rfl rfl (fun x _ (h:x = .bool (((decide (((Aw z.1.branches y).1:Nat)=(0)))&&(Ai y.new))&&(!(Ai y.old))))=>gT h) (fun hu_ _=>Bl hu_) fun hG σ w1 hC h=> ?_
   have bz:=Ae (h 32 (by decide))
   exact Yk.cell1 DT rfl (Ak bz hG) (Al (eb hC hblk) (show(refsC z)[2]? =some (St (z.1.head):Value)from Cq z)) ⟨Ext.refl _,Bk hG⟩
  ·refine AY 13 true 29 (G:=((decide (((Aw z.1.branches y).1:Nat)=(0)))&&(Ai y.new))&&(!(Ai y.old))) rfl rfl (fun x _ (h:x = .bool (((decide (((Aw z.1.branches y).1:Nat)=(0)))&&(Ai y.new))&&(!(Ai y.old))))=>gT h) (fun hu_ _=>Bl hu_) fun hG σ w1 hC h=> ?_
   have n:=(Ae (h 3 (by decide))).trans T3
   exact Yk.fieldAt LY n ⟨Ext.refl _,Bk hG⟩
  ·refine AY 13 true 29 (G:=((decide (((Aw z.1.branches y).1:Nat)=(0)))&&(Ai y.new))&&(!(Ai y.old))) rfl rfl (fun x _ (h:x = .bool (((decide (((Aw z.1.branches y).1:Nat)=(0)))&&(Ai y.new))&&(!(Ai y.old))))=>gT h) (fun hu_ _=>Bl hu_) fun hG σ w1 hC h=> ?_
   have b0:=Ae (h 34 (by decide))
   exact Yk.cell1 DT rfl (Ak b0 hG) (Al (eb hC t) (show(updC y)[1]? =some (St (y.name):Value)from DI y)) ⟨Ext.refl _,Bk hG⟩
  ·refine AY 13 true 29 (G:=((decide (((Aw z.1.branches y).1:Nat)=(0)))&&(Ai y.new))&&(!(Ai y.old))) rfl rfl (fun x _ (h:x = .bool (((decide (((Aw z.1.branches y).1:Nat)=(0)))&&(Ai y.new))&&(!(Ai y.old))))=>gT h) (fun hu_ _=>Bl hu_) fun hG σ w1 hC h=> ?_
   have b1:=Ae (h 33 (by decide))
   have b2:=Ae (h 35 (by decide))
   exact Yk.eqSt (l:=z.1.head) (m:=y.name) (.inl rfl) (Ak b1 hG) (Ak b2 hG) (decide ((z.1.head:List UInt8)=(y.name:List UInt8))) rfl ⟨Ext.refl _,Bk hG⟩
  ·refine Aa rfl fun σ w1 hC h=> ?_
   have b3:=Ae (h 29 (by decide))
   have b4:=Ae (h 36 (by decide))
   exact Yk.pickAnd b3 (fun hA=>(Ak b4 hA)) (vr (.bool (false)) rfl) ⟨Ext.refl _,rfl⟩
 intro b5 b6 q he hf
 obtain⟨-,-,-,-,-,-,-,-,-,-,-,-,-,-,-,-,-,-,-,-,-,k37,-⟩:=hf
 obtain⟨j,T1,T3,T4,T5,T6,-⟩:=he.hold [(0,_),(1,_),(3,_),(4,_),(5,_),(6,_)] ⟨j,T1,T3,T4,T5,T6,trivial⟩ rfl
 clear he
 have hblk:=eb q hblk
 have hbr:=hbr.keep q
 have htg:=htg.keep q
 have hlg:=hlg.keep q
 have hgr:w.grownBy b6 (some g):=Ab hgr q.grown (fun _ e=>by cases e)
 have c:=c.trans q
 have p:=p.keep q
 have b7:b5 37 = .bool ((((decide (((Aw z.1.branches y).1:Nat)=(0)))&&(Ai y.new))&&(!(Ai y.old)))&&(decide ((z.1.head:List UInt8)=(y.name:List UInt8)))):=k37
 clear k37
 refine tN (be _ _ ?_)
 refine AW ((((decide (((Aw z.1.branches y).1:Nat)=(0)))&&(Ai y.new))&&(!(Ai y.old)))&&(decide ((z.1.head:List UInt8)=(y.name:List UInt8)))) b7 (fun an=> ?_) (fun an=> ?_)
 ·have h0c:Lo z.1 y=true:=an
  refine sk fun cl b8=>(wt (oA rfl (oZ (tN (b8 _ _ (Am (An (Aj (fn:=Tryz.f69) _ rfl [NI 16] (NI 16) rfl ⟨rfl,trivial⟩ ?_))))))))
  exact⟨z,⟨by unfold CV;rw[if_pos h0c],by unfold CV;rw[if_pos h0c]⟩,⟨c,ai,hblk,hbr,htg,hlg,hab,hat,hal,hlb,hlt⟩,rfl,hgr⟩
 have h0c:Lo z.1 y=false:=an
 refine Aq (tN (bd _ _ (sk fun cm ax=>(sk fun cn b9=>(wt (oM rfl (oS rfl (Yk.eqI (a:=((Aw z.1.branches y).1:Nat)) (b:=(0:Nat)) T6 rfl (A2 _ _ _ _) (oZ (tN (b9 _ _ ?_)))))))))))
 refine AL (((Aw z.1.branches y).1:Nat)=(0)) (vr (.bool (decide (((Aw z.1.branches y).1:Nat)=(0)))) rfl) (fun ao=> ?_) (fun ao=> ?_)
 ·have h1c:=ao
  refine wt (oM rfl (oM rfl (oS rfl (Yk.nilCheck j (oS rfl (Yk.fieldAt LU (vr (PQ g 0) rfl) (oS rfl (Yk.storeC (i:=0) (v:=u) (vr (PQ g 0) rfl) T5 hblk (by rw[Ao];decide) IL (RG.one (RG.ofOwn p)).1 (RG.one (RG.ofOwn p)).2 fun ay az ac co=> ?_))))))))
  have hbr:=OG.kept hbr ac hab
  have htg:=OG.kept htg ac hat
  have hlg:=OG.kept hlg ac hal
  have hgr:w.grownBy ay (some g):=Ab hgr ac (fun _ e=> .inl e)
  clear hE
  have c:=Af c ac (Nat.le_trans (Nat.le_refl _) (by omega))
  have p:=OG.kept p ac aw
  clear hblk
  have hblk:ay.heap[g]? =some (.cells (refsC ((⟨(Aw z.1.branches y).2,z.1.tags,z.1.head,z.1.at_,z.1.log⟩,⟨u,z.2.tags,z.2.log⟩):Ah)).toArray 35 (0,0)):=AG az (E2 z u ((Aw z.1.branches y).2));clear az
  have cp:=bl hblk
  refine oZ (tN (ax _ _ (sk fun cq ca=>(wt (oM rfl (oA rfl (oZ (tN (ca _ _ (Am (Aj (fn:=Tryz.f69) _ rfl [NI ((Aw z.1.branches y).1)] (NI ((Aw z.1.branches y).1)) rfl ⟨T6,trivial⟩ ?_)))))))))))
  exact⟨((⟨(Aw z.1.branches y).2,z.1.tags,z.1.head,z.1.at_,z.1.log⟩,⟨u,z.2.tags,z.2.log⟩):Ah),⟨by unfold CV;rw[if_neg (by rw[h0c];decide),if_pos h1c,h1c],by unfold CV;rw[if_neg (by rw[h0c];decide),if_pos h1c]⟩,⟨c,ai,hblk,p,htg,hlg,aw,hat,hal,bc,hlt⟩,rfl,hgr⟩
 have h1c:=ao
 refine Aq (tN (ax _ _ (sk fun cr cb=>(wt (oM rfl (oA rfl (oZ (tN (cb _ _ (Am (Aj (fn:=Tryz.f69) _ rfl [NI ((Aw z.1.branches y).1)] (NI ((Aw z.1.branches y).1)) rfl ⟨T6,trivial⟩ ?_)))))))))))
 exact⟨z,⟨by unfold CV;rw[if_neg (by rw[h0c];decide),if_neg h1c],by unfold CV;rw[if_neg (by rw[h0c];decide),if_neg h1c]⟩,⟨c,ai,hblk,hbr,htg,hlg,hab,hat,hal,hlb,hlt⟩,rfl,hgr⟩

theorem Qy(w0 w:World)(g:Nat)(z:Ah)(hA:AppAt w0 w g z)(hS:Ei z.1)(y:Ba):
  Calls Tryz.prog 70 #[PQ g 0, .agg (updC y).toArray] w fun e w' =>∃z',(e = .returned (NI (FN z.1 y).1)∧z'.1=(FN z.1 y).2)∧AppAt w0 w' g z' ∧z'.2.log=z.2.log∧w.grownBy w' (some g):=by
 have hgr:=World.grownBy.refl w (some g)
 have f:=hA.ext
 have ae:=hA.g0
 have hblk:=hA.blk
 have hbr:=hA.br
 have htg:=hA.tg
 have hlg:=hA.lg
 have hab:=hA.ab
 have hat:=hA.at_
 have hal:=hA.al
 have hlb:=hA.lb
 have hlt:=hA.lt
 have hlg0:=hA.lg
 have hgl:=(bl hblk)
 refine As (args:= [PQ g 0, .agg (updC y).toArray]) Tryz.func70 rfl 23 rfl (Nat.le_of_ble_eq_true rfl) ?_
 intro af hb
 have p:af 0=(PQ g 0:Value):=hb.get 0
 have s:af 1=(.agg (updC y).toArray:Value):=hb.get 1
 clear hb
 have hE:=Ext.refl w
 refine sk fun K1 ao=>(wt (oS rfl (Yk.box (cs:=(updC y:List Value).toArray) s fun t c ap ag j ba=> ?_)))
 have bb:=hE.size
 have bc:=f.size
 have bd:=Bc (bl hblk) ap
 have hblk:=eb j hblk
 have hbr:=hbr.keep j
 have htg:=htg.keep j
 have hlg:=hlg.keep j
 have hgr:w.grownBy c (some g):=Ab hgr j.grown (fun _ e=>by cases e)
 have f:=f.trans j
 have aq:=ag;clear ag
 have be:t<c.heap.size:=by omega
 refine oA rfl (oZ (tN (ao _ _ (sk fun bf ar=> ?_))))
 refine Bw [Is (PQ g 0),Is (PQ g 0),Is (PQ g 1),Is (z.2.tags),Is (.agg (updC y).toArray),fun x w' =>∃v,x = .tuple #[v,NI (Aw z.1.tags y).1]∧NewOG 60 w0 c w' v ((Aw z.1.tags y).2),fun x w' =>∃v,x = .tuple #[v,NI (Aw z.1.tags y).1]∧NewOG 60 w0 c w' v ((Aw z.1.tags y).2),fun x w' =>NewOG 60 w0 c w' x ((Aw z.1.tags y).2),Is (NI ((Aw z.1.tags y).1)),fun x w' =>NewOG 60 w0 c w' x ((Aw z.1.tags y).2),Is (NI ((Aw z.1.tags y).1))] (by kernel_rfl) [8,9,10,11,12,13,7,14,15,5,6] (by kernel_rfl) (by kernel_rfl) (Mh ⟨(fun _ _ _ ⟨v,h1,h2⟩ k=>⟨v,h1,h2.keep k⟩),(fun _ _ _ ⟨v,h1,h2⟩ k=>⟨v,h1,h2.keep k⟩),(fun _ _ _ h k=>NewOG.keep h k),Stab.is _,(fun _ _ _ h k=>NewOG.keep h k),Stab.is _,trivial⟩) ?au ?hQ1001
 case au=>
  refine⟨?_,?_,?_,?_,?_,?_,?_,?_,?_,?_,?_,trivial⟩
  ·refine Aa rfl fun σ w1 hC h=> ?_
   have e0:=(Ae (h 0 (by decide))).trans p
   exact Yk.move e0 ⟨Ext.refl _,rfl⟩
  ·refine Aa rfl fun σ w1 hC h=> ?_
   have e8:=Ae (h 8 (by decide))
   exact Yk.nilCheck e8 ⟨Ext.refl _,rfl⟩
  ·refine Aa rfl fun σ w1 hC h=> ?_
   have e9:=Ae (h 9 (by decide))
   exact Yk.fieldAt LV e9 ⟨Ext.refl _,rfl⟩
  ·refine Aa rfl fun σ w1 hC h=> ?_
   have ay:=Ae (h 10 (by decide))
   exact Yk.cell1 D5 rfl ay (Al (eb hC hblk) (show(refsC z)[1]? =some (z.2.tags:Value)from B6 z)) ⟨Ext.refl _,rfl⟩
  ·refine Aa rfl fun σ w1 hC h=> ?_
   have e3:σ 3=PQ t 0:=(Ae (h 3 (by decide))).trans rfl
   exact Yk.loadAll e3 (eb hC aq) (JK).choose_spec rfl (AC (BT y) IK) ⟨Ext.refl _,rfl⟩
  ·refine Aa rfl fun σ w1 hC h=> ?_
   have a0:=Ae (h 11 (by decide))
   have a1:=Ae (h 12 (by decide))
   refine Yk.callA2 JL a0 a1 ((II _ z.2.tags z.1.tags (RG.ofOwn (htg.keep hC)) (by have:=hS.tl;omega) hS.tg y).mono ?_)
   rintro e w2 ⟨v,rfl,ho,hx⟩
   exact⟨_,rfl,hx,v,rfl,NewOG.of ho f.size hC.size⟩
  ·refine Aa rfl fun σ w1 hC h=> ?_
   have a2:(fun x w' =>∃v,x = .tuple #[v,NI (Aw z.1.tags y).1]∧NewOG 60 w0 c w' v ((Aw z.1.tags y).2)) (σ 13) w1:=h 13 (by decide)
   exact Yk.move rfl ⟨Ext.refl _,a2⟩
  ·refine Aa rfl fun σ w1 hC h=> ?_
   have u:(fun x w' =>∃v,x = .tuple #[v,NI (Aw z.1.tags y).1]∧NewOG 60 w0 c w' v ((Aw z.1.tags y).2)) (σ 7) w1:=h 7 (by decide)
   obtain⟨q,h1_,h2_⟩:=u
   exact Yk.extract (vs:= [q,_]) h1_ (show _=some q from rfl) ⟨Ext.refl _,h2_⟩
  ·refine Aa rfl fun σ w1 hC h=> ?_
   have u:(fun x w' =>∃v,x = .tuple #[v,NI (Aw z.1.tags y).1]∧NewOG 60 w0 c w' v ((Aw z.1.tags y).2)) (σ 7) w1:=h 7 (by decide)
   obtain⟨q,h1_,h2_⟩:=u
   exact Yk.extract (vs:= [q,NI (Aw z.1.tags y).1]) h1_ (show _=some (NI (Aw z.1.tags y).1:Value)from rfl) ⟨Ext.refl _,rfl⟩
  ·refine Aa rfl fun σ w1 hC h=> ?_
   have a3:(fun x w' =>NewOG 60 w0 c w' x ((Aw z.1.tags y).2)) (σ 14) w1:=h 14 (by decide)
   exact Yk.assign rfl ⟨Ext.refl _,a3⟩
  ·refine Aa rfl fun σ w1 hC h=> ?_
   have a4:=Ae (h 15 (by decide))
   exact Yk.assign a4 ⟨Ext.refl _,rfl⟩
 intro aa ah l he hf
 obtain⟨-,-,-,-,-,-,-,-,-,k5,k6,-⟩:=hf
 obtain⟨p,s,T3,T4,-⟩:=he.hold [(0,_),(1,_),(3,PQ t 0),(4,NI 0)] ⟨p,s,rfl,rfl,trivial⟩ rfl
 clear he
 have hblk:=eb l hblk
 have hbr:=hbr.keep l
 have htg:=htg.keep l
 have hlg:=hlg.keep l
 have hgr:w.grownBy ah (some g):=Ab hgr l.grown (fun _ e=>by cases e)
 have f:=f.trans l
 have k5:(fun x w' =>NewOG 60 w0 c w' x ((Aw z.1.tags y).2)) (aa 5) ah:=k5
 obtain⟨m,T5⟩:∃v,aa 5=v:=⟨_,rfl⟩
 rw[T5]at k5
 have r:=k5;clear k5
 have aj:OB m g:=NewOG.apart r (by omega)
 have a5:CD z.2.log m:=NewOG.apartv r hlg0 (by omega)
 have o:=r.1;clear r
 have T6:aa 6=NI ((Aw z.1.tags y).1):=k6
 clear k6
 refine tN (ar _ _ (sk fun bj ak=>(sk fun bk a6=>(wt (oM rfl (oS rfl (Yk.eqI (a:=((Aw z.1.tags y).1:Nat)) (b:=(0:Nat)) T6 rfl (A2 _ _ _ _) (oZ (tN (a6 _ _ ?_))))))))))
 refine AL (((Aw z.1.tags y).1:Nat)=(0)) (vr (.bool (decide (((Aw z.1.tags y).1:Nat)=(0)))) rfl) (fun ad=> ?_) (fun ad=> ?_)
 ·have h1c:=ad
  refine wt (oM rfl (oM rfl (oS rfl (Yk.nilCheck p (oS rfl (Yk.fieldAt LV (vr (PQ g 0) rfl) (oS rfl (Yk.storeC (i:=1) (v:=m) (vr (PQ g 1) rfl) T5 hblk (by rw[Ao];decide) IL (RG.one (RG.ofOwn o)).1 (RG.one (RG.ofOwn o)).2 fun am an n bm=> ?_))))))))
  have hbr:=OG.kept hbr n hab
  have htg:=OG.kept htg n hat
  have hlg:=OG.kept hlg n hal
  have hgr:w.grownBy am (some g):=Ab hgr n (fun _ e=> .inl e)
  clear hE
  have f:=Af f n (Nat.le_trans (Nat.le_refl _) (by omega))
  have o:=OG.kept o n aj
  clear hblk
  have hblk:am.heap[g]? =some (.cells (refsC ((⟨z.1.branches,(Aw z.1.tags y).2,z.1.head,z.1.at_,z.1.log⟩,⟨z.2.branches,m,z.2.log⟩):Ah)).toArray 35 (0,0)):=AG an (E3 z m ((Aw z.1.tags y).2));clear an
  have bn:=bl hblk
  refine oZ (tN (ak _ _ (sk fun bo a7=>(wt (oM rfl (oA rfl (oZ (tN (a7 _ _ (Am (Aj (fn:=Tryz.f70) _ rfl [NI ((Aw z.1.tags y).1)] (NI ((Aw z.1.tags y).1)) rfl ⟨T6,trivial⟩ ?_)))))))))))
  exact⟨((⟨z.1.branches,(Aw z.1.tags y).2,z.1.head,z.1.at_,z.1.log⟩,⟨z.2.branches,m,z.2.log⟩):Ah),⟨by unfold FN;rw[if_pos h1c,h1c],by unfold FN;rw[if_pos h1c]⟩,⟨f,ae,hblk,hbr,o,hlg,hab,aj,hal,hlb,a5⟩,rfl,hgr⟩
 have h1c:=ad
 refine Aq (tN (ak _ _ (sk fun bp a8=>(wt (oM rfl (oA rfl (oZ (tN (a8 _ _ (Am (Aj (fn:=Tryz.f70) _ rfl [NI ((Aw z.1.tags y).1)] (NI ((Aw z.1.tags y).1)) rfl ⟨T6,trivial⟩ ?_)))))))))))
 exact⟨z,⟨by unfold FN;rw[if_neg h1c],by unfold FN;rw[if_neg h1c]⟩,⟨f,ae,hblk,hbr,htg,hlg,hab,hat,hal,hlb,hlt⟩,rfl,hgr⟩

theorem PD(w0 w:World)(g:Nat)(z:Ah)(hA:AppAt w0 w g z)(hS:Ei z.1)(y:Ba):
  Calls Tryz.prog 71 #[PQ g 0, .agg (updC y).toArray] w fun e w' =>∃z',(e = .returned (NI (KH z.1 y).1)∧z'.1=(KH z.1 y).2)∧AppAt w0 w' g z' ∧z'.2.log=z.2.log∧w.grownBy w' (some g):=by
 have hgr:=World.grownBy.refl w (some g)
 have b:=hA.ext
 have aa:=hA.g0
 have hblk:=hA.blk
 have hbr:=hA.br
 have htg:=hA.tg
 have hlg:=hA.lg
 have hab:=hA.ab
 have hat:=hA.at_
 have hal:=hA.al
 have hlb:=hA.lb
 have hlt:=hA.lt
 have hlg0:=hA.lg
 have hgl:=(bl hblk)
 refine As (args:= [PQ g 0, .agg (updC y).toArray]) Tryz.func71 rfl 15 rfl (Nat.le_of_ble_eq_true rfl) ?_
 intro p hb
 have q:p 0=(PQ g 0:Value):=hb.get 0
 have T1:p 1=(.agg (updC y).toArray:Value):=hb.get 1
 clear hb
 have hE:=Ext.refl w
 refine sk fun K1 ad=>(wt (oS rfl (Yk.box (cs:=(updC y:List Value).toArray) T1 fun f l ae r j ai=> ?_)))
 have aj:=hE.size
 have ak:=b.size
 have am:=Bc (bl hblk) ae
 have hblk:=eb j hblk
 have hbr:=hbr.keep j
 have htg:=htg.keep j
 have hlg:=hlg.keep j
 have hgr:w.grownBy l (some g):=Ab hgr j.grown (fun _ e=>by cases e)
 have b:=b.trans j
 have c:=r;clear r
 have an:f<l.heap.size:=by omega
 refine oA rfl (oZ (tN (ad _ _ (sk fun ao af=> ?_))))
 have h:Ext l (World.drew l):=(Below.refl _ _).drew
 have hblk:=eb h hblk
 have hbr:=hbr.keep h
 have htg:=htg.keep h
 have hlg:=hlg.keep h
 have hgr:w.grownBy (World.drew l) (some g):=Ab hgr h.grown (fun _ e=>by cases e)
 have b:=b.trans h
 have c:=eb h c
 refine Fw [(0,5,PQ g 0),(1,6,PQ g 0),(2,7,PQ f 1),(3,8,St (y.name)),(4,9,PQ f 34),(5,10,AB y.new.1)] [6,7,8,9,10,11] (fun wz=>Ext w0 wz∧wz.heap[f]? =some (.cells (updC y).toArray 48 (0,0))∧True) (by kernel_rfl) (by kernel_rfl) (by kernel_rfl) ⟨b,c,trivial⟩ ⟨fun n ⟨b,c,_⟩=>Yk.move q ⟨rfl,rfl⟩,fun n ⟨b,c,_⟩=>Yk.move q ⟨rfl,rfl⟩,fun n ⟨b,c,_⟩=>Yk.fieldAt LY (vr (PQ f 0) rfl) ⟨rfl,rfl⟩,fun n ⟨b,c,_⟩=>Yk.cell1 DT rfl (vr (PQ f 1) rfl) (Al c (show(updC y)[1]? =some (St (y.name):Value)from DI y)) ⟨rfl,rfl⟩,fun n ⟨b,c,_⟩=>Yk.fieldAt HV (vr (PQ f 0) rfl) ⟨rfl,rfl⟩,fun n ⟨b,c,_⟩=>Yk.loadPR (PR.blk c (Dk y) (Dl y) (vr (PQ f 34) rfl)) P8 rfl (At y.new.2) ⟨rfl,rfl⟩,trivial⟩ (Ch rfl (Yk.nilCheck (vr (PQ g 0) rfl) ?_))
 refine⟨.inr ⟨b,c,trivial⟩,?_⟩
 refine Ch rfl (Yk.fieldAt FK (vr (PQ g 0) rfl) ?_)
 refine⟨.inr ⟨b,c,trivial⟩,?_⟩
 refine Ch rfl (Yk.storeC (i:=2) (v:=St (y.name)) (vr (PQ g 2) rfl) (vr (St (y.name)) rfl) hblk (by rw[Ao];decide) Ob rfl rfl fun s t k ap=> ?_)
 have hbr:=OG.kept hbr k hab
 have htg:=OG.kept htg k hat
 have hlg:=OG.kept hlg k hal
 have hgr:w.grownBy s (some g):=Ab hgr k (fun _ e=> .inl e)
 clear hE
 have b:=Af b k (Nat.le_trans (Nat.le_refl _) (by omega))
 have c:=kb k c (by omega)
 clear hblk
 have hblk:s.heap[g]? =some (.cells (refsC ((⟨z.1.branches,z.1.tags,y.name,z.1.at_,z.1.log⟩,⟨z.2.branches,z.2.tags,z.2.log⟩):Ah)).toArray 35 (0,0)):=AG t (FZ z y.name);clear t
 have aq:=bl hblk
 refine⟨.inr ⟨b,c,trivial⟩,?_⟩
 refine Ch rfl (Yk.nilCheck (vr (PQ g 0) rfl) ?_)
 refine⟨.inr ⟨b,c,trivial⟩,?_⟩
 refine Ch rfl (Yk.fieldAt HM (vr (PQ g 0) rfl) ?_)
 refine⟨.inr ⟨b,c,trivial⟩,?_⟩
 refine Ch rfl (Yk.storeMid (a:=Dq ((⟨z.1.branches,z.1.tags,y.name,z.1.at_,z.1.log⟩,⟨z.2.branches,z.2.tags,z.2.log⟩):Ah)) (m:=Lib.byteCells z.1.at_.1) (z:=D0 ((⟨z.1.branches,z.1.tags,y.name,z.1.at_,z.1.log⟩,⟨z.2.branches,z.2.tags,z.2.log⟩):Ah)) (cells:=Lib.byteCells y.new.1) (vr (PQ g 3) rfl) (vr (AB y.new.1) rfl) (B7 ((⟨z.1.branches,z.1.tags,y.name,z.1.at_,z.1.log⟩,⟨z.2.branches,z.2.tags,z.2.log⟩):Ah)▸hblk) (Cm ((⟨z.1.branches,z.1.tags,y.name,z.1.at_,z.1.log⟩,⟨z.2.branches,z.2.tags,z.2.log⟩):Ah)) (by rw[Lib.byteCells_length,Lib.byteCells_length,z.1.at_.2,y.new.2]) (by rw[Lib.byteCells_length,y.new.2];exact Nw) (Ay _) fun u x o ar=> ?_)
 have hbr:=OG.kept hbr o hab
 have htg:=OG.kept htg o hat
 have hlg:=OG.kept hlg o hal
 have hgr:w.grownBy u (some g):=Ab hgr o (fun _ e=> .inl e)
 have b:=Af b o (Nat.le_trans (Nat.le_refl _) (by omega))
 clear hblk
 have hblk:u.heap[g]? =some (.cells (refsC ((⟨z.1.branches,z.1.tags,y.name,y.new,z.1.log⟩,⟨z.2.branches,z.2.tags,z.2.log⟩):Ah)).toArray 35 (0,0)):=AG x (F0 ((⟨z.1.branches,z.1.tags,y.name,z.1.at_,z.1.log⟩,⟨z.2.branches,z.2.tags,z.2.log⟩):Ah) y.new);clear x
 have au:=bl hblk
 refine⟨.inl rfl,?_⟩
 refine Hr (tN (af _ _ (sk fun av ag=>(wt (oA rfl (oZ (tN (ag _ _ (Am (Aj (fn:=Tryz.f71) _ rfl [NI 0] (NI 0) rfl ⟨rfl,trivial⟩ ?_))))))))))
 exact⟨((⟨z.1.branches,z.1.tags,y.name,y.new,z.1.log⟩,⟨z.2.branches,z.2.tags,z.2.log⟩):Ah),⟨rfl,rfl⟩,⟨b,aa,hblk,hbr,htg,hlg,hab,hat,hal,hlb,hlt⟩,rfl,hgr⟩

theorem MZ(w:World):
  Calls Tryz.prog 56 #[] w fun e w' =>∃b,e = .returned (.map (some b))∧MapF B8 JJ (fun _:UInt8=>True) w' b doG∧w.heap.size≤b∧Ext w w' :=by
 refine As (args:= []) Tryz.func56 rfl 3 rfl (Nat.le_of_ble_eq_true rfl) ?_
 intro t hb
 clear hb
 have hE:=Ext.refl w
 refine sk fun u j=>(wt (oA rfl (oZ (tN (j _ _ (sk fun v k=>(wt (oS rfl (Yk.mkMap B8 JJ (fun _:UInt8=>True) fun a l x h m y=> ?_)))))))))
 have hE:=hE.trans m
 have z:a<l.heap.size:=by omega
 refine oS rfl (Yk.insM (ek:=B8) (ev:=JJ) (D:=(fun _:UInt8=>True)) (c:=69) KC KD Gl (vr (.map (some a)) rfl) (vr (B8 (1)) rfl) rfl h trivial fun n f o aa=> ?_)
 have hE:=Af hE o (Nat.le_trans (Nat.le_refl _) (by omega))
 clear h
 have ab:a<n.heap.size:=f.lt
 refine oS rfl (Yk.insM (ek:=B8) (ev:=JJ) (D:=(fun _:UInt8=>True)) (c:=70) KC KD Gl (vr (.map (some a)) rfl) (vr (B8 (2)) rfl) rfl f trivial fun p g q ac=> ?_)
 have hE:=Af hE q (Nat.le_trans (Nat.le_refl _) (by omega))
 clear f
 have ad:a<p.heap.size:=g.lt
 refine oS rfl (Yk.insM (ek:=B8) (ev:=JJ) (D:=(fun _:UInt8=>True)) (c:=71) KC KD Gl (vr (.map (some a)) rfl) (vr (B8 (3)) rfl) rfl g trivial fun r i s ae=> ?_)
 have hE:=Af hE s (Nat.le_trans (Nat.le_refl _) (by omega))
 clear g
 have af:a<r.heap.size:=i.lt
 refine oM rfl (oA rfl (oZ (tN (k _ _ (Am (Aj (fn:=Tryz.f56) _ rfl [.map (some a)] (.map (some a)) rfl ⟨rfl,trivial⟩ ?_))))))
 exact⟨_,rfl,i,by omega,hE⟩
open Go.RowKit
theorem JM{k:UInt8}{f:Nat}(h:doG k=some f):(k.toNat=1∧f=69)∨(k.toNat=2∧f=70)∨(k.toNat=3∧f=71):=by
  unfold doG updM at h
  split at h
  · rename_i e;subst e;exact .inr (.inr ⟨rfl,(Option.some.inj h).symm⟩)
  · split at h
    · rename_i e;subst e;exact .inr (.inl ⟨rfl,(Option.some.inj h).symm⟩)
    · split at h
      · rename_i e;subst e;exact .inl ⟨rfl,(Option.some.inj h).symm⟩
      · cases h
theorem PE{k:UInt8}(h:B3 k=true):∃f,doG k=some f:=by
  unfold B3 at h
  simp only[Bool.or_eq_true,decide_eq_true_eq]at h
  rcases h with (h | h) | h
  · obtain rfl:k=1:=UInt8.toNat_inj.1 h
    exact⟨_,rfl⟩
  · obtain rfl:k=2:=UInt8.toNat_inj.1 h
    exact⟨_,rfl⟩
  · obtain rfl:k=3:=UInt8.toNat_inj.1 h
    exact⟨_,rfl⟩
theorem RW:AI Tryz.prog 69:=fun _ _=>by kernel_rfl
theorem RX:AI Tryz.prog 70:=fun _ _=>by kernel_rfl
theorem RY:AI Tryz.prog 71:=fun _ _=>by kernel_rfl
theorem PF{k:UInt8}{f:Nat}(h:doG k=some f):AI Tryz.prog f:=by
  rcases JM h with ⟨-,e⟩ | ⟨-,e⟩ | ⟨-,e⟩ <;> rw[e]
  · exact RW
  · exact RX
  · exact RY
theorem Q6(w0 w:World)(g:Nat)(z:Ah)(hA:AppAt w0 w g z)(hS:Ei z.1)(y:Ba){f:Nat}(hf:doG y.kind=some f):
    Calls Tryz.prog f #[PQ g 0, .agg (updC y).toArray] w fun e w' =>∃z',(e = .returned (NI (Cd z.1 y).1)∧z'.1=(Cd z.1 y).2)∧AppAt w0 w' g z' ∧z'.2.log=z.2.log∧w.grownBy w' (some g):=by
  rcases JM hf with ⟨hk,rfl⟩ | ⟨hk,rfl⟩ | ⟨hk,rfl⟩
  · rw[show Cd z.1 y=CV z.1 y by unfold Cd;rw[if_pos hk]];exact MY w0 w g z hA hS y
  · rw[show Cd z.1 y=FN z.1 y by unfold Cd;rw[if_neg (by omega),if_pos hk]];exact Qy w0 w g z hA hS y
  · rw[show Cd z.1 y=KH z.1 y by unfold Cd;rw[if_neg (by omega),if_neg (by omega)]];exact PD w0 w g z hA hS y
section
variable {α β : Type} {b b' k k' g : Nat} {t t' : TypeId} {enc : α → List Value} {enc' : β → List Value} {w : World} {u v : Value} {l : List α} {m : List β}
theorem OG.off(h:OG b t k enc w v l){cs:Array Value}{fr:Nat × Nat}(hb:w.heap[g]? =some (.cells cs t' fr))(hne:t≠t'):v.ownBlock≠some g:=by
  obtain⟨-,-,⟨rfl,-⟩ | ⟨g',c,cur,rfl,-,hg,-⟩⟩:=h
  · simp[Value.ownBlock]
  · intro e
    obtain rfl:g' =g:=by simpa [Value.ownBlock] using e
    rw[hg]at hb
    simp only[Option.some.injEq,Obj.cells.injEq]at hb
    exact hne hb.2.1
theorem OG.offMap{γ δ:Type}{ek:γ→Value}{ev:δ→Value}{D:γ→Prop}{G:γ→Option δ}(h:OG b t k enc w v l)(hb:MapF ek ev D w g G):v.ownBlock≠some g:=by
  obtain⟨es,c,hm,-⟩:=hb
  obtain⟨-,-,⟨rfl,-⟩ | ⟨g',c,cur,rfl,-,hg,-⟩⟩:=h
  · simp[Value.ownBlock]
  · intro e
    obtain rfl:g' =g:=by simpa [Value.ownBlock] using e
    rw[hg]at hm
    cases hm
theorem OG.apart(hu:OG b t k enc w u l)(hv:OG b' t' k' enc' w v m)(hne:t≠t'):CD u v:=fun g h1 h2=>by
  obtain⟨-,-,⟨rfl,-⟩ | ⟨g',c,cur,rfl,-,hg,-⟩⟩:=hv
  · simp[Value.ownBlock]at h2
  · obtain rfl:g' =g:=by simpa [Value.ownBlock] using h2
    exact hu.off hg hne h1
end
structure RefsOw (b : Nat) (w : World) (z : Ah) : Prop where
  br:OG b 60 33 nmdC w z.2.branches z.1.branches
  tg:OG b 60 33 nmdC w z.2.tags z.1.tags
  lg:OG b 50 67 entC w z.2.log z.1.log
theorem RefsOw.keep{b:Nat}{w w' :World}{z:Ah}(h:RefsOw b w z)(k:Ext w w'):RefsOw b w' z:=⟨h.br.keep k,h.tg.keep k,h.lg.keep k⟩
theorem RefsOw.zero{b:Nat}{w:World}{z:Ah}(h:RefsOw b w z):RefsOw 0 w z:=⟨h.br.low (Nat.zero_le _),h.tg.low (Nat.zero_le _),h.lg.low (Nat.zero_le _)⟩
theorem Yk.maxNI{P:Program}{K:Value→World→Prop}{ρ:Au}{w:World}{d:Option Tmp}{ty:TypeId}{pos:String}{af:Array Edge}{gd:Option (Nat × Bool)}{t1 t2:TypeId}{x y:Operand}{n m:Nat}(hx:Ag ρ x = .int .i64 ((n:Int)-(m:Int)))(hy:Ag ρ y=NI 0)(hk:K (NI (n-m)) w):
    Yk P K ((execOp (Ag ρ) ⟨d, .call ⟨.builtin .max,#[x,y],#[t1,t2]⟩,ty,pos,af,gd⟩).run P w):=by
  refine Yk.value (v:=NI (n-m)) (w' :=w) ?_ hk
  unfold execOp
  simp only[resolve,invoke,builtin,hx,hy,List.map_toArray,List.map_cons,List.map_nil,Sem.run_bind,Sem.run_pure,Result.andThen_ok]
  have hr:(Builtin.max_ #[t1,t2] ty #[.int .i64 ((n:Int)-(m:Int)),NI 0]).run P w = .ok (NI (n-m)) w:=by
    simp only[Builtin.max_,List.foldlM_cons,List.foldlM_nil,Sem.run_bind,Builtin.max2,Sem.run_pure,Result.andThen_ok]
    congr 2
    simp only[Int.natCast_zero]
    split <;> omega
  rw[hr]
  rfl
abbrev zeroR:A0:=⟨[],[],[],zid,[]⟩
def entOf(y:Ba)(note:Bs):AM:=⟨y.kind,y.name,y.old,y.new,note⟩
def Fk(r:A0)(e:AM):A0:=⟨r.branches,r.tags,r.head,r.at_,r.log++ [e]⟩
def DQ(note:Bs)(r:A0)(y:Ba):Nat × A0:=if BI y≠0 then(BI y,r)else if(Cd r y).1≠0 then((Cd r y).1,r)else(0,Fk (Cd r y).2 (entOf y note))
def DW(note:Bs):A0→List Ba→Nat × A0
  | r,[]=>(0,r)
  | r,y :: l=>if(DQ note r y).1≠0 then((DQ note r y).1,zeroR)else DW note (DQ note r y).2 l
def Lp(r:A0):A0:=⟨r.branches,r.tags,r.head,r.at_,r.log.drop (r.log.length-64)⟩
noncomputable def Db(r:A0)(l:List Ba)(note:Bs):Nat × A0:=
  if((!AO r)||(!BL note))=true then(1,zeroR)else if(DW note r l).1≠0 then((DW note r l).1,zeroR)else(0,Lp (DW note r l).2)
theorem Jg{note:Bs}{r:A0}{l:List Ba}{i:Nat}(hi:i<l.length):DW note r (l.drop i)=if(DQ note r (l.getD i A8)).1≠0 then((DQ note r (l.getD i A8)).1,zeroR)else DW note (DQ note r (l.getD i A8)).2 (l.drop (i+1)):=by
  rw[List.drop_eq_getElem_cons hi,List.getD_eq_getElem?_getD,List.getElem?_eq_getElem hi]
  rfl
section
variable {note : Bs} {r r' : A0} {l : List Ba} {i e : Nat}
theorem Oc(hi:i<l.length)(h:BI (l.getD i A8)≠0):DW note r (l.drop i)=(BI (l.getD i A8),zeroR):=by
  rw[Jg hi,show DQ note r (l.getD i A8)=(BI (l.getD i A8),r) by unfold DQ;rw[if_pos h],if_pos h]
theorem G6(hi:i<l.length)(h:BI (l.getD i A8)=0)(h2:(Cd r (l.getD i A8)).1≠0):DW note r (l.drop i)=((Cd r (l.getD i A8)).1,zeroR):=by
  rw[Jg hi,show DQ note r (l.getD i A8)=((Cd r (l.getD i A8)).1,r) by unfold DQ;rw[if_neg (fun k=>k h),if_pos h2],if_pos h2]
theorem JN(hi:i<l.length)(h:BI (l.getD i A8)=0)(h2:(Cd r (l.getD i A8)).1=0):DW note r (l.drop i)=DW note (Fk (Cd r (l.getD i A8)).2 (entOf (l.getD i A8) note)) (l.drop (i+1)):=by
  rw[Jg hi,show DQ note r (l.getD i A8)=(0,Fk (Cd r (l.getD i A8)).2 (entOf (l.getD i A8) note)) by unfold DQ;rw[if_neg (fun k=>k h),if_neg (fun k=>k h2)],if_neg (fun k=>k rfl)]
theorem Lq(hi:l.length≤i):DW note r (l.drop i)=(0,r):=by rw[List.drop_of_length_le hi];rfl
theorem M0(h:((!AO r)||(!BL note))=true):Db r l note=(1,zeroR):=by unfold Db;rw[if_pos h]
theorem EV(h0:((!AO r)||(!BL note))=false)(h:DW note r l=(e,zeroR))(he:e≠0):Db r l note=(e,zeroR):=by unfold Db;rw[h0,if_neg (by decide),h,if_pos he]
theorem JO(h0:((!AO r)||(!BL note))=false)(h:DW note r l=(0,r')):Db r l note=(0,Lp r'):=by unfold Db;rw[h0,if_neg (by decide),h,if_neg (fun k=>k rfl)]
theorem L9{y:Ba}(h:BI y=0):B3 y.kind=true:=by
  unfold BI at h
  cases hk:B3 y.kind with
  | true=>rfl
  | false=>rw[hk]at h;simp at h
end
theorem G7{l:List AK}:Dj l↔(l.map (·.name)).Pairwise (· < ·):=by
  rw[List.pairwise_map,List.pairwise_iff_getElem]
  unfold Dj
  constructor
  · intro h i j hi hj hij
    have:=h i j hij hj
    rwa [List.getD_eq_getElem?_getD,List.getElem?_eq_getElem hi,List.getD_eq_getElem?_getD,List.getElem?_eq_getElem hj]at this
  · intro h i j hij hj
    have:=h i j (by omega) hj hij
    rw[List.getD_eq_getElem?_getD,List.getElem?_eq_getElem (by omega),List.getD_eq_getElem?_getD,List.getElem?_eq_getElem hj]
    exact this
theorem FO{a:AK}{l:List AK}{s:Bs}:BG (a :: l) s=if a.name<s then BG l s+1 else 0:=by
  unfold BG
  rw[List.takeWhile_cons]
  by_cases h:a.name<s <;> simp[h]
theorem JP:∀(l:List AK) (s:Bs),BG l s≤l.length
  | [],s=>Nat.le_refl _
  | a :: l,s=>by rw[FO];have:=JP l s;split <;> simp <;> omega
theorem JQ:∀ {l:List AK} {s:Bs} {j:Nat},j<BG l s→(l.getD j dNmd).name<s
  | [],s,j,h=>by simp[BG]at h
  | a :: l,s,j,h=>by
    rw[FO]at h
    split at h
    · cases j with
      | zero=>assumption
      | succ j=>exact JQ (l:=l) (by omega)
    · omega
theorem JR:∀ {l:List AK} {s:Bs},BG l s<l.length→¬(l.getD (BG l s) dNmd).name<s
  | [],s,h=>by simp at h
  | a :: l,s,h=>by
    rw[FO]at h ⊢
    split at h
    · rename_i e
      rw[if_pos e]
      exact JR (l:=l) (by simpa using h)
    · rename_i e
      rw[if_neg e]
      exact e
theorem Od{l:List AK}{s:Bs}(hs:Dj l):Hu l s (BG l s):=by
  refine⟨JP l s,fun j hj=>JQ hj,fun j h1 h2=> ?_⟩
  exact IF hs (JR (by omega)) j h1 h2
theorem Oe{a b:Bs}(h:¬a<b)(h2:a≠b):b<a:=by
  by_cases h3:b<a
  · exact h3
  · exact absurd (List.le_antisymm h3 h) h2
theorem Kq{l:List AK}{i:Nat}:(l.getD i dNmd).name=(l.map (·.name)).getD i []:=by
  rw[List.getD_eq_getElem?_getD,List.getD_eq_getElem?_getD,List.getElem?_map]
  cases l[i]? <;> rfl
theorem G8{l:List AK}{y:Ba}(hs:Dj l)(hl:l.length≤64):Dj (Aw l y).2∧(Aw l y).2.length≤64:=by
  have hp:=Od (s:=y.name) hs
  have hnil:Dj []:=fun i j _ h=>by simp at h
  unfold Aw
  rcases hf:Bt l y.name (BG l y.name)with _ | _
  · rw[IH hf]
    split
    · exact⟨hnil,by simp⟩
    · split
      · exact⟨hs,hl⟩
      · split
        · exact⟨hnil,by simp⟩
        · refine⟨?_,by rw[List.length_append,List.length_cons,List.length_take,List.length_drop];have:=hp.1;omega⟩
          have b:=hs
          rw[G7]at hs ⊢
          rw[List.map_append,List.map_cons,List.pairwise_append,List.pairwise_cons]
          refine⟨?_,⟨?_,?_⟩,?_⟩
          · rw[List.map_take];exact hs.sublist (List.take_sublist _ _)
          · intro a ha
            obtain⟨n,hn,rfl⟩:=List.mem_map.1 ha
            obtain⟨i,hi,rfl⟩:=List.mem_iff_getElem.1 hn
            rw[List.length_drop]at hi
            have h1:=hp.2.2 (BG l y.name+i) (by omega) (by omega)
            rw[List.getD_eq_getElem?_getD,List.getElem?_eq_getElem (by omega)]at h1
            rw[List.getElem_drop]
            refine Oe h1 fun e=> ?_
            have hi0:i=0:=by
              refine Nat.eq_zero_of_not_pos fun h0=> ?_
              have h2:=b (BG l y.name) (BG l y.name+i) (by omega) (by omega)
              rw[show l.getD (BG l y.name+i) dNmd=l[BG l y.name+i]'(by omega)from by rw[List.getD_eq_getElem?_getD,List.getElem?_eq_getElem (by omega)];rfl]at h2
              refine hp.2.2 (BG l y.name) (Nat.le_refl _) (by omega) ?_
              rw[e]at h2;exact h2
            subst hi0
            unfold Bt at hf
            rw[List.getD_eq_getElem?_getD,List.getElem?_eq_getElem (by omega)]at hf
            simp only[Bool.and_eq_false_iff,decide_eq_false_iff_not]at hf
            rcases hf with hf | hf
            · omega
            · exact hf e
          · rw[List.map_drop];exact hs.sublist (List.drop_sublist _ _)
          · intro a ha c hc
            obtain⟨n,hn,rfl⟩:=List.mem_map.1 ha
            obtain⟨i,hi,rfl⟩:=List.mem_iff_getElem.1 hn
            rw[List.length_take]at hi
            rw[List.getElem_take]
            have h1:=hp.2.1 i (by omega)
            rw[List.getD_eq_getElem?_getD,List.getElem?_eq_getElem (by omega)]at h1
            rcases List.mem_cons.1 hc with rfl | hc
            · exact h1
            · obtain⟨m,hm,rfl⟩:=List.mem_map.1 hc
              obtain⟨j,hj,rfl⟩:=List.mem_iff_getElem.1 hm
              rw[List.length_drop]at hj
              rw[List.getElem_drop]
              have h2:=b i (BG l y.name+j) (by omega) (by omega)
              rw[List.getD_eq_getElem?_getD,List.getElem?_eq_getElem (by omega),List.getD_eq_getElem?_getD,List.getElem?_eq_getElem (by omega)]at h2
              exact h2
  · rw[KG hf]
    have hlt:=Ic hf
    split
    · exact⟨hnil,by simp⟩
    · split
      · refine⟨?_,Nat.le_trans (List.length_eraseIdx_le _ _) hl⟩
        rw[G7]at hs ⊢
        exact hs.sublist ((List.eraseIdx_sublist _ _).map _)
      · refine⟨?_,by rw[List.length_set];exact hl⟩
        rw[G7]at hs ⊢
        rw[List.map_set,Kq]
        rw[show(l.map (·.name)).set (BG l y.name) ((l.map (·.name)).getD (BG l y.name) [])=l.map (·.name)from by
          rw[List.getD_eq_getElem?_getD,List.getElem?_eq_getElem (by rw[List.length_map];exact hlt)];exact List.set_getElem_self _]
        exact hs
theorem M1{r:A0}{y:Ba}(h:Ei r):Ei (Cd r y).2:=by
  unfold Cd
  split
  · unfold CV
    split
    · exact h
    · split
      · have:=G8 (y:=y) h.br h.bl
        exact⟨this.1,h.tg,this.2,h.tl⟩
      · exact h
  · split
    · unfold FN
      split
      · have:=G8 (y:=y) h.tg h.tl
        exact⟨h.br,this.1,h.bl,this.2⟩
      · exact h
    · exact⟨h.br,h.tg,h.bl,h.tl⟩
theorem Jh{r:A0}{y:Ba}:(Cd r y).2.log=r.log:=by
  unfold Cd
  split
  · unfold CV;split
    · rfl
    · split <;> rfl
  · split
    · unfold FN;split <;> rfl
    · rfl
theorem Do{l:List AK}(h:A6 l=true):Dj l∧l.length≤64:=by
  classical
  unfold A6 at h
  have h:=of_decide_eq_true h
  refine⟨?_,h.2⟩
  have step:∀j,j+1<l.length→(l.getD j dNmd).name<(l.getD (j+1) dNmd).name:=fun j hj=>by
    have:=h.1 (j+1) hj
    unfold nE at this
    simp only[Bool.or_eq_false_iff,Bool.and_eq_false_iff,decide_eq_false_iff_not,Bool.not_eq_false',Nat.add_sub_cancel]at this
    rcases this.2 with h1 | h1
    · omega
    · rw[bytesLess_eq]at h1
      exact of_decide_eq_true h1
  intro i j hij hj
  induction j with
  | zero=>omega
  | succ j ih=>
    by_cases e:i=j
    · subst e;exact step i hj
    · exact List.lt_trans (ih (by omega) (by omega)) (step j hj)
theorem Fl{r:A0}(h:AO r=true):A6 r.branches=true∧A6 r.tags=true∧r.log.length≤64:=by
  unfold AO at h
  simp only[Bool.and_eq_true]at h
  have h1:=h.1
  unfold F2 at h1
  simp only[Bool.not_eq_true',Bool.or_eq_false_iff,Bool.not_eq_false',decide_eq_false_iff_not]at h1
  exact⟨h1.1.1,h1.1.2,by omega⟩
theorem GE{r:A0}(h:AO r=true):Ei r:=by
  obtain⟨h1,h2,-⟩:=Fl h
  exact⟨(Do h1).1,(Do h2).1,(Do h1).2,(Do h2).2⟩
open Go.RowKit
structure Ry (r : A0) : Prop where
  br:A6 r.branches=true
  tg:A6 r.tags=true
  hd:Fv r=false
  lg:∀e∈r.log,B3 e.kind=true∧BL e.note=true∧e.name.length≤32
theorem DD{l:List AK}:A6 l=true↔(∀n∈l,Ap n.name=true∧Ai n.id=false)∧Dj l∧l.length≤64:=by
  classical
  constructor
  · intro h
    refine⟨fun n hn=> ?_,Do h⟩
    unfold A6 at h
    have h:=(of_decide_eq_true h).1
    obtain⟨i,hi,rfl⟩:=List.mem_iff_getElem.1 hn
    have:=h i hi
    unfold nE at this
    rw[List.getD_eq_getElem?_getD,List.getElem?_eq_getElem hi]at this
    simp only[Bool.or_eq_false_iff,Bool.not_eq_false',Option.getD_some]at this
    exact this.1
  · rintro⟨h1,h2,h3⟩
    unfold A6
    refine decide_eq_true ⟨fun j hj=> ?_,h3⟩
    unfold nE
    have:=h1 (l.getD j dNmd) (CB dNmd hj)
    rw[this.1,this.2]
    simp only[Bool.not_true,Bool.false_or,Bool.and_eq_false_iff,decide_eq_false_iff_not,Bool.not_eq_false']
    by_cases h0:0<j
    · right
      rw[bytesLess_eq]
      exact decide_eq_true (h2 (j-1) j (by omega) hj)
    · exact .inl h0
theorem Gm{r:A0}:AO r=true↔Ry r∧r.log.length≤64:=by
  classical
  constructor
  · intro h
    obtain⟨h1,h2,h3⟩:=Fl h
    unfold AO at h
    simp only[Bool.and_eq_true,Bool.not_eq_true',decide_eq_true_eq]at h
    refine⟨⟨h1,h2,h.2.1,fun e he=> ?_⟩,h3⟩
    obtain⟨i,hi,rfl⟩:=List.mem_iff_getElem.1 he
    have:=h.2.2 i hi
    unfold DU at this
    rw[List.getD_eq_getElem?_getD,List.getElem?_eq_getElem hi]at this
    simp only[Bool.or_eq_false_iff,Bool.not_eq_false',Option.getD_some,decide_eq_false_iff_not]at this
    exact⟨this.1.1,this.1.2,by omega⟩
  · rintro⟨h,h3⟩
    refine Eg (i:=r.log.length) ?_ h.hd (Nat.le_refl _) fun j hj=> ?_
    · unfold F2;rw[h.br,h.tg];simp;omega
    · have:=h.lg _ (CB Ad hj)
      unfold DU
      rw[this.1,this.2.1,decide_eq_false (by omega)]
      rfl
open Go.RowKit
set_option maxRecDepth 100000
noncomputable def Dc(r:A0):BS × Nat:=if AO r=true then(if r.head= []then(r.at_,0)else if Bt r.branches r.head (BG r.branches r.head)=true then((r.branches.getD (BG r.branches r.head) dNmd).id,0)else(zid,4))else(zid,1)
theorem Of:AI Tryz.prog 13:=fun _ _=>by kernel_rfl
set_option maxHeartbeats 1600000
theorem Og(w:World)(z:Ah)(hm:RefsAt w z)(hL:By z.1):
  Calls Tryz.prog 31 #[.agg (refsC z).toArray,St []] w fun e w' =>e = .returned (.tuple #[AB ((Dc z.1).1.1),NI (Dc z.1).2])∧Ext w w' :=by
 have hmt:=hm.branches
 have hmg:=hm.tags
 have hml:=hm.log
 refine As (args:= [.agg (refsC z).toArray,St (([]:List UInt8))]) Tryz.func31 rfl 70 rfl (Nat.le_of_ble_eq_true rfl) ?_
 intro s hb
 have T0:s 0=(.agg (refsC z).toArray:Value):=hb.get 0
 have T1:s 1=(St (([]:List UInt8)):Value):=hb.get 1
 clear hb
 have hE:=Ext.refl w
 refine sk fun K1 aj=>(wt (oS rfl (Yk.box (cs:=(refsC z:List Value).toArray) T0 fun c w3 a7 t al a8=> ?_)))
 have hE:=hE.trans al
 have b:=t;clear t
 have a9:c<w3.heap.size:=by omega
 refine oS rfl (Yk.alloc (cs:=(Lib.byteCells (List.replicate 32 0)).toArray) H9 fun f am an u x ba=> ?_)
 have g:=hE.size
 have bb:=Bc (bl b) an
 have hE:=hE.trans x
 have b:=eb x b
 have a:=u;clear u
 have bc:f<am.heap.size:=by omega
 refine oA rfl (oZ (tN (aj _ _ (sk fun bd ao=>(sk fun be ap=>(wt (oS rfl (Yk.loadAll (vr (PQ c 0) rfl) b (N9).choose_spec rfl (AC (Ao z) IJ) (oS rfl (Yk.callA1 Of (vr (.agg (refsC z).toArray) rfl) ((ET _ z ⟨(hmt.keep hE),(hmg.keep hE),(hml.keep hE)⟩ hL).mono ?_)))))))))))
 rintro e bf ⟨rfl,j⟩
 refine⟨_,rfl,?_⟩
 have hE:=hE.trans j
 have b:=eb j b
 have a:=eb j a
 refine oS rfl (Yk.notB (vr (.bool (AO z.1)) rfl) (oZ (tN (ap _ _ ?_))))
 refine AW (!(AO z.1)) (vr (.bool (!(AO z.1))) rfl) (fun k=> ?_) (fun k=> ?_)
 ·have hrt:AO z.1=false:=by simpa using k
  refine sk fun bg aq=>(wt (oS rfl (Yk.run (v:=AB (List.replicate 32 0)) (by kernel_rfl) (oS rfl (Yk.storeAll (vr (PQ f 0) rfl) (vr (AB (List.replicate 32 0)) rfl) a (by exact BK List.length_replicate List.length_replicate) (by exact At List.length_replicate) (Ay _) fun bh y aa bi=> ?_)))))
  have hE:=Af hE aa (Nat.le_trans g (by omega))
  have b:=kb aa b (by omega)
  clear a
  have a:=y;clear y
  have bj:=bl a
  refine oA rfl (oZ (tN (aq _ _ (Am (An (Aj (fn:=Tryz.f31) _ rfl [AB (List.replicate 32 0),NI 1] (.tuple #[AB (List.replicate 32 0),NI 1]) rfl ⟨ResF.row rfl a P8 rfl (by exact At List.length_replicate),rfl,trivial⟩ ?_))))))
  have hT:Dc z.1=(zid,1):=by unfold Dc;rw[if_neg (by rw[hrt];decide)]
  exact⟨by rw[hT];try rfl,hE⟩
 have hrt:AO z.1=true:=by simpa using k
 have hS:=GE hrt
 refine Aq (tN (ao _ _ (sk fun bk bm=>(sk fun bn ar=>(wt (oM rfl (oS rfl (Yk.eqSt (l:=([]:List UInt8)) (m:=([]:List UInt8)) (.inl rfl) T1 (vr (St (([]:List UInt8))) rfl) (decide (([]:List UInt8)=(([]:List UInt8):List UInt8))) rfl (oZ (tN (ar _ _ (wpF_true (vr (.bool (true)) (congrArg Value.bool (decide_eq_true (rfl)))) (sk fun bo au=>(sk fun bp av=>(wt (oS rfl (Yk.fieldAt FK (vr (PQ c 0) rfl) (oS rfl (Yk.cell1 DT rfl (vr (PQ c 2) rfl) (Al b (show(refsC z)[2]? =some (St (z.1.head):Value)from Cq z)) (oS rfl (Yk.eqSt (l:=z.1.head) (m:=([]:List UInt8)) (.inl rfl) (vr (St (z.1.head)) rfl) (vr (St (([]:List UInt8))) rfl) (decide ((z.1.head:List UInt8)=(([]:List UInt8):List UInt8))) rfl ?_)))))))))))))))))))))
 refine oZ (tN (av _ _ ?_))
 refine AL ((z.1.head:List UInt8)=(([]:List UInt8):List UInt8)) (vr (.bool (decide ((z.1.head:List UInt8)=(([]:List UInt8):List UInt8)))) rfl) (fun o=> ?_) (fun o=> ?_)
 ·have hh:=o
  refine sk fun bq aw=>(wt (oS rfl (Yk.fieldAt HM (vr (PQ c 0) rfl) (oS rfl (Yk.loadPR (PR.blk b (B7 z) (Cm z) (vr (PQ c 3) rfl)) P8 rfl (At z.1.at_.2) (oS rfl (Yk.storeAll (vr (PQ f 0) rfl) (vr (AB z.1.at_.1) rfl) a (by exact BK z.1.at_.2 List.length_replicate) (by exact At z.1.at_.2) (Ay _) fun bs ab ac bt=> ?_)))))))
  have hE:=Af hE ac (Nat.le_trans g (by omega))
  have b:=kb ac b (by omega)
  clear a
  have a:=ab;clear ab
  have bu:=bl a
  refine oA rfl (oZ (tN (aw _ _ (Am (An (An (Aj (fn:=Tryz.f31) _ rfl [AB z.1.at_.1,NI 0] (.tuple #[AB z.1.at_.1,NI 0]) rfl ⟨ResF.row rfl a P8 rfl (by exact At z.1.at_.2),rfl,trivial⟩ ?_)))))))
  have hT:Dc z.1=(z.1.at_,0):=by unfold Dc;rw[if_pos hrt,if_pos hh]
  exact⟨by rw[hT];try rfl,hE⟩
 have hh:=o
 refine Aq (tN (au _ _ (sk fun bv ax=>(sk fun bw ay=>(wt (oS rfl (Yk.fieldAt LU (vr (PQ c 0) rfl) (oS rfl (Yk.cell1 D5 rfl (vr (PQ c 0) rfl) (Al b (show(refsC z)[0]? =some (z.2.branches:Value)from BN z)) (oS rfl (Yk.fieldAt FK (vr (PQ c 0) rfl) (oS rfl (Yk.cell1 DT rfl (vr (PQ c 2) rfl) (Al b (show(refsC z)[2]? =some (St (z.1.head):Value)from Cq z)) (oS rfl (Yk.callA2 N3 (vr z.2.branches rfl) (vr (St (z.1.head)) rfl) ((JG _ _ z.1.branches (hmt.keep hE) (by have:=hS.bl;omega) hS.br z.1.head).mono ?_))))))))))))))))
 rintro e az ⟨⟨p,rfl,hp⟩,q⟩
 refine⟨_,rfl,?_⟩
 have hE:=hE.trans q
 have b:=eb q b
 have a:=eb q a
 refine oM rfl (oS rfl (Yk.extract (vs:= [NI p, .bool (Bt z.1.branches z.1.head p)]) (vr (.tuple #[NI p, .bool (Bt z.1.branches z.1.head p)]) rfl) (show _=some (NI p:Value)from rfl) (oS rfl (Yk.extract (vs:= [NI p, .bool (Bt z.1.branches z.1.head p)]) (vr (.tuple #[NI p, .bool (Bt z.1.branches z.1.head p)]) rfl) (show _=some (.bool (Bt z.1.branches z.1.head p):Value)from rfl) (oA rfl (oA rfl (oZ (tN (ay _ _ (sk fun bx a0=>(wt (oM rfl (oZ (tN (a0 _ _ ?_)))))))))))))))
 refine AW (Bt z.1.branches z.1.head p) (vr (.bool (Bt z.1.branches z.1.head p)) rfl) (fun r=> ?_) (fun r=> ?_)
 ·have hf:=r
  have hlt:=Ic hf
  refine sk fun bz a1=>(wt (oS rfl (Yk.fieldAt LU (vr (PQ c 0) rfl) (oS rfl (Yk.cell1 D5 rfl (vr (PQ c 0) rfl) (Al b (show(refsC z)[0]? =some (z.2.branches:Value)from BN z)) (oM rfl ?_))))))
  have b0:(nmdC ((z.1.branches).getD (p) dNmd)).length=33:=(RG.elem (hmt.keep hE) dNmd (hlt))
  refine oS rfl (Yk.atRG D5 Iw (by decide) dNmd (RG.of (hmt.keep hE) (vr z.2.branches rfl)) (vr (NI p) rfl) (hlt) fun a2 ad=> ?_)
  have h:(Lib.byteCells ((z.1.branches).getD (p) dNmd).id.1).length=32:=by rw[Lib.byteCells_length,((z.1.branches).getD (p) dNmd).id.2]
  refine oS rfl (Yk.fieldPR (n:=32) LT (PR.of ad (vr a2 rfl)) fun ae i=> ?_)
  have i:PR (Lib.byteCells ((z.1.branches).getD (p) dNmd).id.1) ae az:=(Ee ((z.1.branches).getD (p) dNmd))▸i
  refine oS rfl (Yk.loadPR (PR.of i (vr ae rfl)) P8 rfl (by rw[h];exact Nw) (oS rfl (Yk.storeAll (vr (PQ f 0) rfl) (vr (AB (((z.1.branches).getD (p) dNmd).id.1)) rfl) a (by exact BK (Ct (h)) List.length_replicate) (by exact At (Ct (h))) (Ay _) fun b1 af a3 b2=> ?_)))
  have hE:=Af hE a3 (Nat.le_trans g (by omega))
  clear ad
  clear i
  clear a
  have a:=af;clear af
  have b3:=bl a
  refine oA rfl (oZ (tN (a1 _ _ (Am (An (An (Aj (fn:=Tryz.f31) _ rfl [AB (((z.1.branches).getD (p) dNmd).id.1),NI 0] (.tuple #[AB (((z.1.branches).getD (p) dNmd).id.1),NI 0]) rfl ⟨ResF.row rfl a P8 rfl (by exact At (Ct (h))),rfl,trivial⟩ ?_)))))))
  have hT:Dc z.1=((z.1.branches.getD p dNmd).id,0):=by unfold Dc;rw[if_pos hrt,if_neg hh,←Cu hp,if_pos hf]
  exact⟨by rw[hT];try rfl,hE⟩
 have hf:=r
 refine Aq (tN (ax _ _ (sk fun b4 a4=>(wt (oS rfl (Yk.run (v:=AB (List.replicate 32 0)) (by kernel_rfl) (oS rfl (Yk.storeAll (vr (PQ f 0) rfl) (vr (AB (List.replicate 32 0)) rfl) a (by exact BK List.length_replicate List.length_replicate) (by exact At List.length_replicate) (Ay _) fun b5 ag a5 b6=> ?_))))))))
 have hE:=Af hE a5 (Nat.le_trans g (by omega))
 clear a
 have a:=ag;clear ag
 have b7:=bl a
 refine oA rfl (oZ (tN (a4 _ _ (Am (An (Aj (fn:=Tryz.f31) _ rfl [AB (List.replicate 32 0),NI 4] (.tuple #[AB (List.replicate 32 0),NI 4]) rfl ⟨ResF.row rfl a P8 rfl (by exact At List.length_replicate),rfl,trivial⟩ ?_))))))
 have hT:Dc z.1=(zid,4):=by unfold Dc;rw[if_pos hrt,if_neg hh,←Cu hp,if_neg (by rw[hf];decide)]
 exact⟨by rw[hT];try rfl,hE⟩
end Go.Proofs.YtmonlobfofkbdaaGreatDoor
