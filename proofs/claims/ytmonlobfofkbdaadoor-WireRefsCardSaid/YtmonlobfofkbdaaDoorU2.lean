/- Part 2 of what stands behind these statements: laws and walks of the functions that are reached. Conditions: those that each theorem names. -/
import Derived.Test.YtmonlobfofkbdaaDoorU1
set_option linter.unusedVariables false
set_option linter.unusedSimpArgs false
namespace Go.Proofs.YtmonlobfofkbdaaDoor
open Go.RowKit
set_option maxRecDepth 100000
theorem D5:Tryd.prog.underlying 21=some (.int .i32):=by kernel_rfl
theorem Dx:Tryd.prog.underlying 9=some (.string):=by kernel_rfl
theorem Hv:AG Tryd.prog 173:=fun _ _=>by kernel_rfl
theorem Lp:AG Tryd.prog 174:=fun _ _=>by kernel_rfl
theorem Lq:AG Tryd.prog 162:=fun _ _=>by kernel_rfl
theorem Hw:AG Tryd.prog 148:=fun _ _=>by kernel_rfl
theorem Lr:AG Tryd.prog 121:=fun _ _=>by kernel_rfl
theorem Ls:AG Tryd.prog 120:=fun _ _=>by kernel_rfl
set_option maxHeartbeats 1600000
theorem O7(w:World)(r:Nat):
  Calls Tryd.prog 174 #[.int .i32 (r:Int)] w fun e w' =>e = .returned (.bool (C6 r))∧Ext w w' :=by
 refine calls_of_wpF (args:= [.int .i32 ((r:Nat):Int)]) Tryd.func174 rfl 17 rfl (Nat.le_of_ble_eq_true rfl) ?_
 intro f hb
 have c:f 0=(.int .i32 ((r:Nat):Int):Value):=hb.get 0
 clear hb
 have hE:=Ext.refl w
 refine sk fun i g=>(wt (oA rfl (oZ (tN (g _ _ (sk fun j h=>(wt (oM rfl (oS rfl (Yk.eqI (a:=(r:Nat)) (b:=(0:Nat)) c rfl (Dr _ _ _ _) (oM rfl (Ab (.int .i32 ((r:Nat):Int)) rfl rfl (gT (vr (.bool (decide ((0)≤(r)))) rfl)) (fun hG3=>Yk.move c ⟨rfl,rfl⟩) (Ab (.bool (decide ((r)≤(1114111)))) rfl rfl (gT (vr (.bool (decide ((0)≤(r)))) rfl)) (fun hG4=>Yk.eqI (a:=((r:Nat):Int)) (b:=((1114111:Nat):Int)) (mayT (vr (cond ((decide ((0)≤(r)))) (.int .i32 ((r:Nat):Int)) undef) rfl) hG4) (vr (.int .i32 ((1114111:Nat):Int)) rfl) (Cl _ .i32 (r) (1114111)) ⟨rfl,rfl⟩) (oS rfl (Yk.pickAndN (vr (.bool (decide ((0)≤(r)))) rfl) (fun hA=>(mayT (vr (cond ((decide ((0)≤(r)))) (.bool (decide ((r)≤(1114111)))) undef) rfl) hA)) (vr (.bool (false)) rfl) fun bb5 hbb6=>(oM rfl (Ab (.int .i32 ((r:Nat):Int)) rfl rfl (gT (vr (.bool (bb5)) rfl)) (fun hG7=>Yk.move c ⟨rfl,rfl⟩) (Ab (.bool (decide ((r)<(55296)))) rfl rfl (gT (vr (.bool (bb5)) rfl)) (fun hG8=>Yk.eqI (a:=((r:Nat):Int)) (b:=((55296:Nat):Int)) (mayT (vr (cond (bb5) (.int .i32 ((r:Nat):Int)) undef) rfl) hG8) (vr (.int .i32 ((55296:Nat):Int)) rfl) (AZ _ .i32 (r) (55296)) ⟨rfl,rfl⟩) ?_))))))))))))))))))
 refine Ab (.bool (decide ((r)<(55296)))) rfl rfl (gT (vr (.bool (bb5)) rfl)) (fun hG9=>Yk.move (mayT (vr (cond (bb5) (.bool (decide ((r)<(55296)))) undef) rfl) hG9) ⟨rfl,rfl⟩) (Ab (.int .i32 ((r:Nat):Int)) rfl rfl (Bk (vr (cond (bb5) (.bool (decide ((r)<(55296)))) undef) rfl)) (fun hG10=>Yk.move c ⟨rfl,rfl⟩) (Ab (.bool (decide ((57343)<(r)))) rfl rfl (Bk (vr (cond (bb5) (.bool (decide ((r)<(55296)))) undef) rfl)) (fun hG11=>Yk.eqI (a:=((r:Nat):Int)) (b:=((57343:Nat):Int)) (mayT (vr (cond (bb5&& !(decide ((r)<(55296)))) (.int .i32 ((r:Nat):Int)) undef) rfl) hG11) (vr (.int .i32 ((57343:Nat):Int)) rfl) (Ce _ .i32 (r) (57343)) ⟨rfl,rfl⟩) (A7 ((decide ((r)<(55296)))||(decide ((57343)<(r)))) rfl rfl (gT (vr (.bool (bb5)) rfl)) (fun hG12=>Yk.pickOr (mayT (vr (cond (bb5) (.bool (decide ((r)<(55296)))) undef) rfl) hG12) (vr (.bool (true)) rfl) (fun hA=>(mayT (vr (cond (bb5&& !(decide ((r)<(55296)))) (.bool (decide ((57343)<(r)))) undef) rfl) (BF hG12 (not_i hA)))) ⟨rfl,rfl⟩) fun bb13 hbb14=>(oS rfl (Yk.pickAndN (vr (.bool (bb5)) rfl) (fun hA=>(mayT (vr (cond (bb5) (.bool (bb13)) undef) rfl) hA)) (vr (.bool (false)) rfl) fun bb15 hbb16=>(oA rfl (oZ (tN (h _ _ (Ap (Ao (fn:=Tryd.f174) _ rfl [.bool (bb15)] (.bool (bb15)) rfl ⟨rfl,trivial⟩ ?_)))))))))))
 subst hbb6 hbb14 hbb16
 exact⟨rfl,hE⟩

theorem JD(w:World)(c:UInt8):
  Calls Tryd.prog 173 #[B8 c] w fun e w' =>e = .returned (P3 (B3 c))∧Ext w w' :=by
 refine calls_of_wpF (args:= [B8 (c)]) Tryd.func173 rfl 40 rfl (Nat.le_of_ble_eq_true rfl) ?_
 intro k hb
 have f:k 0=(B8 (c):Value):=hb.get 0
 clear hb
 have hE:=Ext.refl w
 refine sk fun y l=>(wt (oA rfl (oA rfl (oA rfl (oZ (tN (l _ _ (sk fun z m=>(Ax (sk fun K3 o=>(wt (oM rfl (oS rfl (Yk.eqI (a:=((c).toNat:Nat)) (b:=(128:Nat)) f rfl (AZ _ _ _ _) (oA rfl (oZ (tN (o _ _ ?_))))))))))))))))))
 refine A2 (((c).toNat)<(128)) (vr (.bool (decide (((c).toNat)<(128)))) rfl) (fun g=> ?_) (fun g=> ?_)
 ·refine sk fun K4 p=>(wt (oM rfl (oS rfl (Yk.convI u5 D5 f (C9 .i32 (c) (fun n hn=>CE n (by omega))) (oA rfl (oA rfl (oA rfl (oZ (tN (p _ _ (Ap (AC (As (Ao (fn:=Tryd.f173) _ rfl [NI 0, .int .i32 (((c).toNat:Nat):Int), .int .i32 ((0:Nat):Int)] (.tuple #[NI 0, .int .i32 (((c).toNat:Nat):Int), .int .i32 ((0:Nat):Int)]) rfl ⟨rfl,rfl,rfl,trivial⟩ ?_))))))))))))))
  refine⟨congrArg Ending.returned ?_,hE⟩
  unfold B3
  rw[if_pos g]
  rfl
 refine sk fun K5 q=>(wt (oM rfl (oS rfl (Yk.eqI (a:=((c).toNat:Nat)) (b:=(192:Nat)) f rfl (Dr _ _ _ _) (oM rfl (Ab (B8 (c)) rfl rfl (gT (vr (.bool (decide ((192)≤((c).toNat)))) rfl)) (fun hG6=>Yk.move f ⟨rfl,rfl⟩) (Ab (.bool (decide (((c).toNat)<(224)))) rfl rfl (gT (vr (.bool (decide ((192)≤((c).toNat)))) rfl)) (fun hG7=>Yk.eqI (a:=(((c).toNat:Nat):Int)) (b:=((224:Nat):Int)) (mayT (vr (cond ((decide ((192)≤((c).toNat)))) (B8 (c)) undef) rfl) hG7) (vr (B8 (224)) rfl) (AZ _ .u8 ((c).toNat) (224)) ⟨rfl,rfl⟩) (oS rfl (Yk.pickAndN (vr (.bool (decide ((192)≤((c).toNat)))) rfl) (fun hA=>(mayT (vr (cond ((decide ((192)≤((c).toNat)))) (.bool (decide (((c).toNat)<(224)))) undef) rfl) hA)) (vr (.bool (false)) rfl) fun bb8 hbb9=>(oA rfl (oZ (tN (q _ _ ?_)))))))))))))
 refine A0 (bb8) (vr (.bool (bb8)) rfl) (fun h=> ?_) (fun h=> ?_)
 ·subst hbb9
  refine sk fun ad r=>(wt (oM rfl (oS rfl (Yk.bin (xv:= .int .u8 (((c).toNat:Nat):Int)) (yv:= .int .u8 ((31:Nat):Int)) f rfl rfl (F6 _ _ _ (c.toNat_lt) (by decide)) (oS rfl (Yk.convI u5 D5 (vr (.int .u8 ((((c).toNat)&&&(31):Nat):Int)) rfl) (CE (((c).toNat)&&&(31)) (Nat.lt_of_le_of_lt Nat.and_le_right (by decide))) (oA rfl (oA rfl (oA rfl (oZ (tN (r _ _ (Ap (AC (As (Ao (fn:=Tryd.f173) _ rfl [NI 1, .int .i32 ((((c).toNat)&&&(31):Nat):Int), .int .i32 ((128:Nat):Int)] (.tuple #[NI 1, .int .i32 ((((c).toNat)&&&(31):Nat):Int), .int .i32 ((128:Nat):Int)]) rfl ⟨rfl,rfl,rfl,trivial⟩ ?_))))))))))))))))
  refine⟨congrArg Ending.returned ?_,hE⟩
  unfold B3
  rw[if_neg g]
  rw[if_pos (by simpa using h)]
  rfl
 subst hbb9
 refine sk fun ae s=>(wt (oM rfl (oS rfl (Yk.eqI (a:=((c).toNat:Nat)) (b:=(224:Nat)) f rfl (Dr _ _ _ _) (oM rfl (Ab (B8 (c)) rfl rfl (gT (vr (.bool (decide ((224)≤((c).toNat)))) rfl)) (fun hG12=>Yk.move f ⟨rfl,rfl⟩) (Ab (.bool (decide (((c).toNat)<(240)))) rfl rfl (gT (vr (.bool (decide ((224)≤((c).toNat)))) rfl)) (fun hG13=>Yk.eqI (a:=(((c).toNat:Nat):Int)) (b:=((240:Nat):Int)) (mayT (vr (cond ((decide ((224)≤((c).toNat)))) (B8 (c)) undef) rfl) hG13) (vr (B8 (240)) rfl) (AZ _ .u8 ((c).toNat) (240)) ⟨rfl,rfl⟩) (oS rfl (Yk.pickAndN (vr (.bool (decide ((224)≤((c).toNat)))) rfl) (fun hA=>(mayT (vr (cond ((decide ((224)≤((c).toNat)))) (.bool (decide (((c).toNat)<(240)))) undef) rfl) hA)) (vr (.bool (false)) rfl) fun bb14 hbb15=>(oA rfl (oZ (tN (s _ _ ?_)))))))))))))
 refine A0 (bb14) (vr (.bool (bb14)) rfl) (fun i=> ?_) (fun i=> ?_)
 ·subst hbb15
  refine sk fun af t=>(wt (oM rfl (oS rfl (Yk.bin (xv:= .int .u8 (((c).toNat:Nat):Int)) (yv:= .int .u8 ((15:Nat):Int)) f rfl rfl (F6 _ _ _ (c.toNat_lt) (by decide)) (oS rfl (Yk.convI u5 D5 (vr (.int .u8 ((((c).toNat)&&&(15):Nat):Int)) rfl) (CE (((c).toNat)&&&(15)) (Nat.lt_of_le_of_lt Nat.and_le_right (by decide))) (oA rfl (oA rfl (oA rfl (oZ (tN (t _ _ (Ap (AC (As (Ao (fn:=Tryd.f173) _ rfl [NI 2, .int .i32 ((((c).toNat)&&&(15):Nat):Int), .int .i32 ((2048:Nat):Int)] (.tuple #[NI 2, .int .i32 ((((c).toNat)&&&(15):Nat):Int), .int .i32 ((2048:Nat):Int)]) rfl ⟨rfl,rfl,rfl,trivial⟩ ?_))))))))))))))))
  refine⟨congrArg Ending.returned ?_,hE⟩
  unfold B3
  rw[if_neg g]
  rw[if_neg (by simpa using h)]
  rw[if_pos (by simpa using i)]
  rfl
 subst hbb15
 refine sk fun ag u=>(wt (oM rfl (oS rfl (Yk.eqI (a:=((c).toNat:Nat)) (b:=(240:Nat)) f rfl (Dr _ _ _ _) (oM rfl (Ab (B8 (c)) rfl rfl (gT (vr (.bool (decide ((240)≤((c).toNat)))) rfl)) (fun hG18=>Yk.move f ⟨rfl,rfl⟩) (Ab (.bool (decide (((c).toNat)<(248)))) rfl rfl (gT (vr (.bool (decide ((240)≤((c).toNat)))) rfl)) (fun hG19=>Yk.eqI (a:=(((c).toNat:Nat):Int)) (b:=((248:Nat):Int)) (mayT (vr (cond ((decide ((240)≤((c).toNat)))) (B8 (c)) undef) rfl) hG19) (vr (B8 (248)) rfl) (AZ _ .u8 ((c).toNat) (248)) ⟨rfl,rfl⟩) (oS rfl (Yk.pickAndN (vr (.bool (decide ((240)≤((c).toNat)))) rfl) (fun hA=>(mayT (vr (cond ((decide ((240)≤((c).toNat)))) (.bool (decide (((c).toNat)<(248)))) undef) rfl) hA)) (vr (.bool (false)) rfl) fun bb20 hbb21=>(oA rfl (oZ (tN (u _ _ ?_)))))))))))))
 refine A0 (bb20) (vr (.bool (bb20)) rfl) (fun j=> ?_) (fun j=> ?_)
 ·subst hbb21
  refine sk fun ah v=>(wt (oM rfl (oS rfl (Yk.bin (xv:= .int .u8 (((c).toNat:Nat):Int)) (yv:= .int .u8 ((7:Nat):Int)) f rfl rfl (F6 _ _ _ (c.toNat_lt) (by decide)) (oS rfl (Yk.convI u5 D5 (vr (.int .u8 ((((c).toNat)&&&(7):Nat):Int)) rfl) (CE (((c).toNat)&&&(7)) (Nat.lt_of_le_of_lt Nat.and_le_right (by decide))) (oA rfl (oA rfl (oA rfl (oZ (tN (v _ _ (Ap (AC (As (Ao (fn:=Tryd.f173) _ rfl [NI 3, .int .i32 ((((c).toNat)&&&(7):Nat):Int), .int .i32 ((65536:Nat):Int)] (.tuple #[NI 3, .int .i32 ((((c).toNat)&&&(7):Nat):Int), .int .i32 ((65536:Nat):Int)]) rfl ⟨rfl,rfl,rfl,trivial⟩ ?_))))))))))))))))
  refine⟨congrArg Ending.returned ?_,hE⟩
  unfold B3
  rw[if_neg g]
  rw[if_neg (by simpa using h)]
  rw[if_neg (by simpa using i)]
  rw[if_pos (by simpa using j)]
  rfl
 subst hbb21
 refine Ak (bN (tN (m _ _ (sk fun ai x=>(wt (oA rfl (oA rfl (oA rfl (oZ (tN (x _ _ (Ap (Ao (fn:=Tryd.f173) _ rfl [.int .i64 (-1:Int), .int .i32 ((0:Nat):Int), .int .i32 ((0:Nat):Int)] (.tuple #[.int .i64 (-1:Int), .int .i32 ((0:Nat):Int), .int .i32 ((0:Nat):Int)]) rfl ⟨rfl,rfl,rfl,trivial⟩ ?_)))))))))))))
 refine⟨congrArg Ending.returned ?_,hE⟩
 unfold B3
 rw[if_neg g]
 rw[if_neg (by simpa using h)]
 rw[if_neg (by simpa using i)]
 rw[if_neg (by simpa using j)]
 rfl

theorem Kl(w:World)(l:Bs)(a:Nat)(ha:a<l.length)(hl:l.length≤4611686018427387904):
  Calls Tryd.prog 162 #[St l,NI a] w fun e w' =>(∃r b k,e = .returned (.tuple #[.int .i32 ((r:Nat):Int),NI b, .bool k])∧CQ l a=if k=true then some b else none)∧Ext w w' :=by
 refine calls_of_wpF (args:= [St (l),NI a]) Tryd.func162 rfl 62 rfl (Nat.le_of_ble_eq_true rfl) ?_
 intro y hb
 have f:y 0=(St (l):Value):=hb.get 0
 have c:y 1=(NI a:Value):=hb.get 1
 clear hb
 have hE:=Ext.refl w
 refine sk fun K1 z=>(wt (oA rfl (oA rfl (oA rfl (oZ ?_)))))
 rcases hq:B3 (l.getD a 0)with _ | ⟨n,r,m⟩
 ·refine tN (z _ _ (sk fun K2 ab=>(wt (oM rfl (oM rfl (oS rfl (Yk.idxSt (l:=l) (i:=a) Dx f c (ha) (oS rfl (Yk.callA1 Hv (vr (B8 (l.getD (a) 0)) rfl) (((show Calls _ _ _ _ (fun e t=>e = .returned (.tuple #[.int .i64 ((-1):Int), .int .i32 ((0:Nat):Int), .int .i32 ((0:Nat):Int)])∧Ext w t)from by have h:=JD w (l.getD a 0);rw[hq]at h;exact h)).mono ?_))))))))))
  rintro e w4 ⟨rfl,ac⟩
  refine⟨_,rfl,?_⟩
  have hE:=hE.trans ac
  refine oM rfl (oS rfl (Yk.extract (vs:= [.int .i64 ((-1):Int), .int .i32 ((0:Nat):Int), .int .i32 ((0:Nat):Int)]) (vr (.tuple #[.int .i64 ((-1):Int), .int .i32 ((0:Nat):Int), .int .i32 ((0:Nat):Int)]) rfl) (show _=some (.int .i64 ((-1):Int):Value)from rfl) (oS rfl (Yk.extract (vs:= [.int .i64 ((-1):Int), .int .i32 ((0:Nat):Int), .int .i32 ((0:Nat):Int)]) (vr (.tuple #[.int .i64 ((-1):Int), .int .i32 ((0:Nat):Int), .int .i32 ((0:Nat):Int)]) rfl) (show _=some (.int .i32 ((0:Nat):Int):Value)from rfl) (oS rfl (Yk.extract (vs:= [.int .i64 ((-1):Int), .int .i32 ((0:Nat):Int), .int .i32 ((0:Nat):Int)]) (vr (.tuple #[.int .i64 ((-1):Int), .int .i32 ((0:Nat):Int), .int .i32 ((0:Nat):Int)]) rfl) (show _=some (.int .i32 ((0:Nat):Int):Value)from rfl) (oA rfl (oA rfl (oA rfl (oZ (tN (ab _ _ (sk fun K5 a5=>(sk fun K6 ad=>(wt (oM rfl (oS rfl (Yk.eqI (vr (.int .i64 ((-1):Int)) rfl) (vr (NI 0) rfl) (Lc _ .i64 ((-1):Int) ((0:Nat):Int)) (oM rfl (oN (d:=22) rfl rfl rfl (vr (.bool (true)) (congrArg Value.bool (decide_eq_true (by decide)))) rfl ?_))))))))))))))))))))
  refine oN (d:=22) rfl rfl rfl (vr (.bool (true)) (congrArg Value.bool (decide_eq_true (by decide)))) rfl (oN (d:=22) rfl rfl rfl (vr (.bool (true)) (congrArg Value.bool (decide_eq_true (by decide)))) rfl (oN (d:=22) rfl rfl rfl (vr (.bool (true)) (congrArg Value.bool (decide_eq_true (by decide)))) rfl (oN (d:=22) rfl rfl rfl (vr (.bool (true)) (congrArg Value.bool (decide_eq_true (by decide)))) rfl (oN (d:=22) rfl rfl rfl (vr (.bool (true)) (congrArg Value.bool (decide_eq_true (by decide)))) rfl (oS rfl (Yk.pickT (vr (.bool (true)) (congrArg Value.bool (decide_eq_true (by decide)))) (vr (.bool (true)) rfl) (oZ (tN (ad _ _ (AE (vr (.bool (true)) rfl) (sk fun K7 ae=>(wt (oA rfl (oA rfl (oA rfl (oZ (tN (ae _ _ ?_))))))))))))))))))
  refine Ap (As (Ao (fn:=Tryd.f162) _ rfl [.int .i32 ((0:Nat):Int),NI 0, .bool (false)] (.tuple #[.int .i32 ((0:Nat):Int),NI 0, .bool (false)]) rfl ⟨rfl,rfl,rfl,trivial⟩ ?_))
  exact⟨⟨_,_,_,rfl,Mu hq⟩,hE⟩
 obtain⟨aa,af,a8,hm⟩:=Ht hq
 refine tN (z _ _ (sk fun K8 ag=>(wt (oM rfl (oM rfl (oS rfl (Yk.idxSt (l:=l) (i:=a) Dx f c (ha) (oS rfl (Yk.callA1 Hv (vr (B8 (l.getD (a) 0)) rfl) (((show Calls _ _ _ _ (fun e t=>e = .returned (.tuple #[NI n, .int .i32 ((r:Nat):Int), .int .i32 ((m:Nat):Int)])∧Ext w t)from by have h:=JD w (l.getD a 0);rw[hq]at h;exact h)).mono ?_))))))))))
 rintro e ba ⟨rfl,ah⟩
 refine⟨_,rfl,?_⟩
 have hE:=hE.trans ah
 refine oM rfl (oS rfl (Yk.extract (vs:= [NI n, .int .i32 ((r:Nat):Int), .int .i32 ((m:Nat):Int)]) (vr (.tuple #[NI n, .int .i32 ((r:Nat):Int), .int .i32 ((m:Nat):Int)]) rfl) (show _=some (NI n:Value)from rfl) (oS rfl (Yk.extract (vs:= [NI n, .int .i32 ((r:Nat):Int), .int .i32 ((m:Nat):Int)]) (vr (.tuple #[NI n, .int .i32 ((r:Nat):Int), .int .i32 ((m:Nat):Int)]) rfl) (show _=some (.int .i32 ((r:Nat):Int):Value)from rfl) (oS rfl (Yk.extract (vs:= [NI n, .int .i32 ((r:Nat):Int), .int .i32 ((m:Nat):Int)]) (vr (.tuple #[NI n, .int .i32 ((r:Nat):Int), .int .i32 ((m:Nat):Int)]) rfl) (show _=some (.int .i32 ((m:Nat):Int):Value)from rfl) (oA rfl (oA rfl (oA rfl (oZ (tN (ag _ _ (sk fun bb ai=>(sk fun bc aj=>(wt (oM rfl (oS rfl (Yk.eqI (a:=(n:Nat)) (b:=(0:Nat)) rfl rfl (AZ _ _ _ _) (oM rfl (oY (d:=22) rfl rfl (vr (.bool (false)) (congrArg Value.bool (decide_eq_false (by omega)))) (Yk.move f ?_)))))))))))))))))))))
 refine oY (d:=22) rfl rfl (vr (.bool (false)) (congrArg Value.bool (decide_eq_false (by omega)))) (Yk.lenSt (l:=l) Dx (vr (St (l)) rfl) (oY (d:=22) rfl rfl (vr (.bool (false)) (congrArg Value.bool (decide_eq_false (by omega)))) (Yk.move c (oY (d:=22) rfl rfl (vr (.bool (false)) (congrArg Value.bool (decide_eq_false (by omega)))) (Yk.bin (xv:=NI l.length) (yv:=NI a) rfl rfl rfl (CM _ _ _ (by omega) (by omega)) (oY (d:=22) rfl rfl (vr (.bool (false)) (congrArg Value.bool (decide_eq_false (by omega)))) (Yk.move (vr (NI n) rfl) (oY (d:=22) rfl rfl (vr (.bool (false)) (congrArg Value.bool (decide_eq_false (by omega)))) (Yk.eqI (a:=((l.length)-(a):Nat)) (b:=(n:Nat)) rfl rfl (Cl _ _ _ _) (oS rfl (Yk.pickF (vr (.bool (false)) (congrArg Value.bool (decide_eq_false (by omega)))) (vr (.bool (decide (((l.length)-(a))≤(n)))) rfl) (oZ (tN (aj _ _ ?_))))))))))))))
 refine A2 (((l.length)-(a))≤(n)) (vr (.bool (decide (((l.length)-(a))≤(n)))) rfl) (fun u=> ?_) (fun u=> ?_)
 ·refine sk fun bd ak=>(wt (oA rfl (oA rfl (oA rfl (oZ (tN (ak _ _ (Ap (As (Ao (fn:=Tryd.f162) _ rfl [.int .i32 ((0:Nat):Int),NI 0, .bool (false)] (.tuple #[.int .i32 ((0:Nat):Int),NI 0, .bool (false)]) rfl ⟨rfl,rfl,rfl,trivial⟩ ?_))))))))))
  exact⟨⟨_,_,_,rfl,Li hq (of_decide_eq_true (by simpa using u))⟩,hE⟩
 have hs:¬l.length-a≤n:=fun h=>by simp[h]at u
 refine Ak (tN (ai _ _ (sk fun be al=>(sk fun bf am=>(wt (oM rfl (oM rfl (Be [(0,St (l)),(1,NI a),(4, .int .i32 ((0:Nat):Int)),(5,NI 0),(6, .bool (false)),(7,NI n),(8, .int .i32 ((r:Nat):Int)),(9, .int .i32 ((m:Nat):Int)),(30,NI n),(31,NI 0)] ⟨f,c,rfl,rfl,rfl,rfl,rfl,rfl,rfl,rfl,trivial⟩ fun bg ⟨f,c,T4,T5,T6,o,j,p,s,g,_⟩=>(tN (am _ _ (Ax (Bc (fun(ρ:At) (wz:World)=>∃i:Nat,∃q:Nat,ρ 0=(St (l):Value)∧ρ 1=(NI a:Value)∧ρ 7=(NI n:Value)∧ρ 9=(.int .i32 ((m:Nat):Int):Value)∧ρ 30=(NI n:Value)∧ρ 31=(NI i:Value)∧ρ 8=(.int .i32 ((q:Nat):Int):Value)∧Ext w wz∧(i≤n)∧(q<2^(7+6*i))∧(CK l (a+1) n r=CK l (a+1+i) (n-i) q)∧True) (fun ρ _=>n-(intOf (ρ 31)).toNat) ⟨0,r,f,c,o,p,s,g,j,hE,Nat.zero_le _,af,rfl,trivial⟩ ?_))))))))))))
 clear hE
 rintro an bk ⟨i,q,f,c,o,p,s,g,j,hE,hi,hqb,ht,-⟩
 have q31:=g
 refine sk fun bm ao=>(wt (oS rfl (Yk.eqI (a:=(i:Nat)) (b:=(n:Nat)) g s (AZ _ _ _ _) (oZ (tN (ao _ _ (sk fun bn ap=> ?_)))))))
 refine A2 ((i)<(n)) (vr (.bool (decide ((i)<(n)))) rfl) (fun v=> ?_) (fun v=> ?_)
 ·have hlt:i<n:=v
  refine Ak (tN (ap _ _ (sk fun bo aq=>(Ax (sk fun bp ar=>(wt (oM rfl (oA rfl (oZ (tN (ar _ _ (sk fun bq au=>(wt (oM rfl (oM rfl (oS rfl (Yk.bin (xv:=NI a) (yv:=NI 1) c rfl rfl (AN _ _ _ (by omega)) (oM rfl ?_))))))))))))))))))
  refine oS rfl (Yk.bin (xv:=NI ((a)+(1))) (yv:=NI i) rfl g rfl (AN _ _ _ (by omega)) (oS rfl (Yk.idxSt (l:=l) (i:=((a)+(1))+(i)) Dx f (vr (NI (((a)+(1))+(i))) rfl) (by omega) (oA rfl (oZ (tN (au _ _ (sk fun br av=>(sk fun bs aw=>(wt (oM rfl (oS rfl (Yk.bin (xv:= .int .u8 (((l.getD (((a)+(1))+(i)) 0).toNat:Nat):Int)) (yv:= .int .u8 ((192:Nat):Int)) rfl rfl rfl (F6 _ _ _ (UInt8.toNat_lt _) (by decide)) (oS rfl (Yk.eqI (a:=(((l.getD (((a)+(1))+(i)) 0).toNat)&&&(192):Nat)) (b:=(128:Nat)) rfl rfl (DW _ _ _ _) (oZ (tN (aw _ _ ?_))))))))))))))))))
  refine A2 ((((l.getD (((a)+(1))+(i)) 0).toNat)&&&(192):Nat)≠(128)) (vr (.bool (decide ((((l.getD (((a)+(1))+(i)) 0).toNat)&&&(192):Nat)≠(128)))) rfl) (fun x=> ?_) (fun x=> ?_)
  ·refine sk fun bt ax=>(wt (oA rfl (oA rfl (oA rfl (oZ (tN (ax _ _ (Ap (As (AC (As (As (AC (As (Ao (fn:=Tryd.f162) _ rfl [.int .i32 ((0:Nat):Int),NI 0, .bool (false)] (.tuple #[.int .i32 ((0:Nat):Int),NI 0, .bool (false)]) rfl ⟨rfl,rfl,rfl,trivial⟩ ?_)))))))))))))))
   exact⟨⟨_,_,_,rfl,NV hq (ht.trans (Mt hlt x))⟩,hE⟩
  refine Ak (tN (av _ _ (wt (oM rfl (oS rfl (Yk.bin (xv:= .int .i32 ((q:Nat):Int)) (yv:= .int .u64 ((6:Nat):Int)) j rfl rfl (O4 _ (q) _ (6) (by decide) (GQ hqb hlt aa)) (oM rfl (oS rfl (Yk.bin (xv:= .int .u8 (((l.getD (((a)+(1))+(i)) 0).toNat:Nat):Int)) (yv:= .int .u8 ((63:Nat):Int)) rfl rfl rfl (F6 _ _ _ (UInt8.toNat_lt _) (by decide)) (oS rfl (Yk.convI u5 D5 (vr (.int .u8 ((((l.getD (((a)+(1))+(i)) 0).toNat)&&&(63):Nat):Int)) rfl) (CE (((l.getD (((a)+(1))+(i)) 0).toNat)&&&(63)) (Oz _)) (oS rfl (Yk.bin (xv:= .int .i32 (((q)*2^(6):Nat):Int)) (yv:= .int .i32 ((((l.getD (((a)+(1))+(i)) 0).toNat)&&&(63):Nat):Int)) rfl rfl rfl (PF _ ((q)*2^(6)) (((l.getD (((a)+(1))+(i)) 0).toNat)&&&(63)) (GQ hqb hlt aa) (Oz _)) (oA rfl (oZ (bN (tN (aq _ _ (wt (oS rfl (Yk.bin (xv:=NI i) (yv:=NI 1) g rfl rfl (AN _ _ _ (by omega)) (oM rfl ?_))))))))))))))))))))))
  refine Be [(0,St (l)),(1,NI a),(7,NI n),(8, .int .i32 ((((q)*2^(6))|||(((l.getD (((a)+(1))+(i)) 0).toNat)&&&(63)):Nat):Int)),(9, .int .i32 ((m:Nat):Int)),(10,NI i),(11,B8 (l.getD (((a)+(1))+(i)) 0)),(30,NI n),(31,NI ((i)+(1)))] ⟨f,c,o,rfl,p,g,rfl,s,rfl,trivial⟩ fun ay ⟨f,c,o,j,p,bu,bv,s,g,_⟩=>(tN (And.intro ⟨i+1,(q*2^6|||((l.getD (a+1+i) 0).toNat&&&63)),f,c,o,p,s,g,j,hE,by omega,Kk hqb,ht.trans (Lh hlt (Decidable.of_not_not x)),trivial⟩ ?_))
  show n-(intOf (ay 31)).toNat<n-(intOf (an 31)).toNat
  rw[g,q31]
  simp only[intOf,Int.toNat_natCast];omega
 have hni:¬i<n:=v
 refine A6 (Aw (Aw (AM (tN (al _ _ (sk fun bw az=>(wt (oM rfl (oM rfl (oM rfl (oS rfl (Yk.bin (xv:=NI a) (yv:=NI n) c o rfl (AN _ _ _ (by omega)) (oS rfl (Yk.bin (xv:=NI ((a)+(n))) (yv:=NI 1) rfl rfl rfl (AN _ _ _ (by omega)) (oM rfl (oM rfl (oS rfl (Yk.eqI (a:=(q:Nat)) (b:=(m:Nat)) j p (Dr _ _ _ _) (oM rfl (Ab (.int .i32 ((q:Nat):Int)) rfl rfl (gT (vr (.bool (decide ((m)≤(q)))) rfl)) (fun hG29=>Yk.move j ⟨rfl,rfl⟩) (AP (.bool (C6 q)) rfl rfl (gT (vr (.bool (decide ((m)≤(q)))) rfl)) (fun hG30=>Yk.callA1 Lp (mayT (vr (cond ((decide ((m)≤(q)))) (.int .i32 ((q:Nat):Int)) undef) rfl) hG30) ((O7 _ q).mono (by rintro e t ⟨rfl,hx⟩;exact⟨_,rfl,rfl,hx⟩))) fun bx a0=> ?_)))))))))))))))))))))
 have hE:=hE.trans a0
 refine oS rfl (Yk.pickAndN (vr (.bool (decide ((m)≤(q)))) rfl) (fun hA=>(mayT (vr (cond ((decide ((m)≤(q)))) (.bool (C6 q)) undef) rfl) hA)) (vr (.bool (false)) rfl) fun bb34 hbb35=>(oA rfl (oA rfl (oA rfl (oZ (tN (az _ _ (Ap (Ao (fn:=Tryd.f162) _ rfl [.int .i32 ((q:Nat):Int),NI (((a)+(n))+(1)), .bool (bb34)] (.tuple #[.int .i32 ((q:Nat):Int),NI (((a)+(n))+(1)), .bool (bb34)]) rfl ⟨j,rfl,rfl,trivial⟩ ?_)))))))))
 subst hbb35
 exact⟨⟨_,_,_,rfl,O6 hq hs (ht.trans (by rw[show n-i=0 by omega];rfl))⟩,hE⟩

theorem IB(w:World)(l:Bs)(hl:l.length≤4611686018427387904):
  Calls Tryd.prog 148 #[St l] w fun e w' =>(∃p,e = .returned (.tuple #[NI p,NI (if Cw l 0=true then 0 else 5)]))∧Ext w w' :=by
 refine calls_of_wpF (args:= [St (l)]) Tryd.func148 rfl 22 rfl (Nat.le_of_ble_eq_true rfl) ?_
 intro i hb
 have c:i 0=(St (l):Value):=hb.get 0
 clear hb
 have hE:=Ext.refl w
 refine sk fun K1 j=>(wt (oA rfl (oA rfl (Be [(0,St (l)),(2,NI 0),(3,NI 0)] ⟨c,rfl,rfl,trivial⟩ fun ab ⟨c,f,T3,_⟩=>(tN (j _ _ (sk fun K3 m=>(Ax (Bc (fun(ρ:At) (wz:World)=>∃p:Nat,ρ 0=(St (l):Value)∧ρ 2=(NI p:Value)∧Ext w wz∧(p≤l.length)∧(Cw l 0=Cw l p)∧True) (fun ρ _=>l.length-(intOf (ρ 2)).toNat) ⟨0,c,f,hE,Nat.zero_le _,rfl,trivial⟩ ?_)))))))))
 clear hE
 rintro n w5 ⟨p,c,f,hE,hp,ht,-⟩
 have q2:=f
 refine sk fun K6 o=>(sk fun K7 q=>(wt (oM rfl (oM rfl (oS rfl (Yk.lenSt (l:=l) Dx c (oS rfl (Yk.eqI (a:=(p:Nat)) (b:=(l.length:Nat)) f rfl (AZ _ _ _ _) (oZ (tN (q _ _ ?_)))))))))))
 refine A2 ((p)<(l.length)) (vr (.bool (decide ((p)<(l.length)))) rfl) (fun g=> ?_) (fun g=> ?_)
 ·have hlt:p<l.length:=g
  refine Ak (tN (o _ _ (Ax (sk fun K8 s=>(wt (oM rfl (oM rfl (oS rfl (Yk.callA2 Lq c f ((Kl _ l p hlt hl).mono ?_))))))))))
  rintro e ai ⟨⟨r,b,k,rfl,hd⟩,t⟩
  refine⟨_,rfl,?_⟩
  have hE:=hE.trans t
  refine oM rfl (oS rfl (Yk.extract (vs:= [.int .i32 ((r:Nat):Int),NI b, .bool (k)]) (vr (.tuple #[.int .i32 ((r:Nat):Int),NI b, .bool (k)]) rfl) (show _=some (.int .i32 ((r:Nat):Int):Value)from rfl) (oS rfl (Yk.extract (vs:= [.int .i32 ((r:Nat):Int),NI b, .bool (k)]) (vr (.tuple #[.int .i32 ((r:Nat):Int),NI b, .bool (k)]) rfl) (show _=some (NI b:Value)from rfl) (oS rfl (Yk.extract (vs:= [.int .i32 ((r:Nat):Int),NI b, .bool (k)]) (vr (.tuple #[.int .i32 ((r:Nat):Int),NI b, .bool (k)]) rfl) (show _=some (.bool (k):Value)from rfl) (oA rfl (oA rfl (oA rfl (oZ (tN (s _ _ (sk fun aj u=>(sk fun ak v=>(wt (oM rfl (oS rfl (Yk.notB (vr (.bool (k)) rfl) (oZ (tN (v _ _ ?_)))))))))))))))))))))
  refine A0 (!(k)) (vr (.bool (!(k))) rfl) (fun h=> ?_) (fun h=> ?_)
  ·have hk:k=false:=by simpa using h
   rw[hk,if_neg (by decide)]at hd
   refine sk fun al x=>(wt (oM rfl (oA rfl (oA rfl (oZ (tN (x _ _ (Ap (As (AC (As (AC (As (Ao (fn:=Tryd.f148) _ rfl [NI p,NI 5] (.tuple #[NI p,NI 5]) rfl ⟨f,rfl,trivial⟩ ?_))))))))))))))
   exact⟨⟨_,by rw[ht,Ix hlt hd];rfl⟩,hE⟩
  have hk:k=true:=by simpa using h
  rw[if_pos hk]at hd
  refine Ak (tN (u _ _ (wt (oM rfl (oA rfl (Be [(0,St (l)),(2,NI b),(5,NI b),(6, .bool (k))] ⟨c,rfl,rfl,rfl,trivial⟩ fun y ⟨c,f,T5,T6,_⟩=>(bN (tN (And.intro ⟨b,c,f,hE,(Ih hd).2,ht.trans (Iy hlt hd),trivial⟩ ?_)))))))))
  show l.length-(intOf (y 2)).toNat<l.length-(intOf (n 2)).toNat
  rw[f,q2]
  have:=Ih hd;simp only[intOf,Int.toNat_natCast];omega
 have hlt:=g
 refine A6 (Aw (Aw (AM (tN (m _ _ (sk fun ao z=>(wt (oA rfl (oA rfl (oZ (tN (z _ _ (Ap (Ao (fn:=Tryd.f148) _ rfl [NI 0,NI 0] (.tuple #[NI 0,NI 0]) rfl ⟨rfl,rfl,trivial⟩ ?_))))))))))))))
 exact⟨⟨_,by rw[ht,Jv (show ¬p<l.length by omega)];rfl⟩,hE⟩

theorem JE(w:World)(r:Nat):
  Calls Tryd.prog 121 #[.int .i32 (r:Int)] w fun e w' =>e = .returned (.bool true)∧Ext w w' :=by
 refine calls_of_wpF (args:= [.int .i32 ((r:Nat):Int)]) Tryd.func121 rfl 3 rfl (Nat.le_of_ble_eq_true rfl) ?_
 intro a hb
 have f:a 0=(.int .i32 ((r:Nat):Int):Value):=hb.get 0
 clear hb
 have hE:=Ext.refl w
 refine sk fun g b=>(wt (oA rfl (oZ (tN (b _ _ (sk fun h c=>(wt (oA rfl (oZ (tN (c _ _ (Ap (Ao (fn:=Tryd.f121) _ rfl [.bool (true)] (.bool (true)) rfl ⟨rfl,trivial⟩ ?_)))))))))))))
 exact⟨rfl,hE⟩

theorem My(w:World)(l:Bs)(hl:l.length≤4611686018427387904):
  Calls Tryd.prog 120 #[St l, .func (.func 121) #[] #[]] w fun e w' =>e = .returned (.bool (Cw l 0))∧Ext w w' :=by
 refine calls_of_wpF (args:= [St (l), .func (.func 121) #[] #[]]) Tryd.func120 rfl 25 rfl (Nat.le_of_ble_eq_true rfl) ?_
 intro r hb
 have c:r 0=(St (l):Value):=hb.get 0
 have i:r 1=(.func (.func 121) #[] #[]:Value):=hb.get 1
 clear hb
 have hE:=Ext.refl w
 refine sk fun K1 s=>(wt (oA rfl (oZ ?_)))
 rcases hT:Cw l 0 with _ | _
 ·refine tN (s _ _ (sk fun K2 az=>(sk fun K3 aa=>(wt (oM rfl (oS rfl (Yk.callA1 Hw c (((show Calls _ _ _ _ (fun e o=>(∃p,e = .returned (.tuple #[NI p,NI 5]))∧Ext w o)from by have h:=IB w l hl;rw[hT]at h;exact h)).mono ?_))))))))
  rintro e w5 ⟨⟨p0,rfl⟩,ab⟩
  refine⟨_,rfl,?_⟩
  have hE:=hE.trans ab
  refine oM rfl (oS rfl (Yk.extract (vs:= [NI p0,NI 5]) (vr (.tuple #[NI p0,NI 5]) rfl) (show _=some (NI p0:Value)from rfl) (oS rfl (Yk.extract (vs:= [NI p0,NI 5]) (vr (.tuple #[NI p0,NI 5]) rfl) (show _=some (NI 5:Value)from rfl) (oA rfl (oA rfl (oZ (tN (aa _ _ (sk fun K6 ac=>(wt (oM rfl (oS rfl (Yk.eqI (a:=(5:Nat)) (b:=(0:Nat)) rfl rfl (DW _ _ _ _) (oZ (tN (ac _ _ (AE (vr (.bool (true)) (congrArg Value.bool (decide_eq_true (by decide)))) (sk fun K7 ad=>(wt ?_))))))))))))))))))))
  refine oA rfl (oZ (tN (ad _ _ (Ap (As (Ao (fn:=Tryd.f120) _ rfl [.bool (false)] (.bool (false)) rfl ⟨rfl,trivial⟩ ?_))))))
  exact⟨by rw[hT],hE⟩
 refine tN (s _ _ (sk fun K8 ae=>(sk fun K9 af=>(wt (oM rfl (oS rfl (Yk.callA1 Hw c (((show Calls _ _ _ _ (fun e o=>(∃p,e = .returned (.tuple #[NI p,NI 0]))∧Ext w o)from by have h:=IB w l hl;rw[hT]at h;exact h)).mono ?_))))))))
 rintro e t ⟨⟨p0,rfl⟩,ag⟩
 refine⟨_,rfl,?_⟩
 have hE:=hE.trans ag
 refine oM rfl (oS rfl (Yk.extract (vs:= [NI p0,NI 0]) (vr (.tuple #[NI p0,NI 0]) rfl) (show _=some (NI p0:Value)from rfl) (oS rfl (Yk.extract (vs:= [NI p0,NI 0]) (vr (.tuple #[NI p0,NI 0]) rfl) (show _=some (NI 0:Value)from rfl) (oA rfl (oA rfl (oZ (tN (af _ _ (sk fun a6 ah=>(wt (oM rfl (oS rfl (Yk.eqI (a:=(0:Nat)) (b:=(0:Nat)) rfl rfl (DW _ _ _ _) (oZ (tN (ah _ _ (Al (vr (.bool (false)) (congrArg Value.bool (decide_eq_false (by decide)))) (Ak (tN (ae _ _ ?_)))))))))))))))))))))
 refine sk fun a7 ai=>(sk fun a8 aj=>(wt (oM rfl (oS rfl (Yk.rangeSt (l:=l) Dx c fun j ak a9 u v ba=> ?_)))))
 have f:=Ext.refl t
 have al:=hE.size
 have hE:=hE.trans v
 have f:=f.trans v
 have x:=u;clear u
 have bb:j<ak.heap.size:=by omega
 refine Be [(0,St (l)),(1, .func (.func 121) #[] #[]),(4, .bool (false)),(6,NI 0),(15, .bool (false)),(17,PQ j 0)] ⟨c,i,rfl,rfl,(congrArg Value.bool (decide_eq_false (by decide))),rfl,trivial⟩ fun bc ⟨c,i,T4,m,n,k,_⟩=>(tN (aj _ _ (Ax (Bc (fun(ρ:At) (wz:World)=>∃p:Nat,ρ 0=(St (l):Value)∧ρ 1=(.func (.func 121) #[] #[]:Value)∧ρ 6=(NI 0:Value)∧ρ 15=(.bool (false):Value)∧ρ 17=(PQ j 0:Value)∧Ext w wz∧Ext t wz∧wz.heap[j]? =some (.stringIter ⟨l.toArray⟩ p)∧True) (fun ρ wz=>l.length-wz.iterPos j) ⟨0,c,i,m,n,k,hE,f,x,trivial⟩ ?_))))
 clear x
 clear hE f
 rintro be am ⟨p,c,i,m,n,k,hE,f,hI,-⟩
 have hI0:=Hr hI
 by_cases hlt:p<l.length
 ·refine sk fun bf an=>(wt (oS rfl (Yk.nextSt (l:=l) (p:=p) k hI hlt fun ao g bg bh y z bi=> ?_)))
  have hE:=Ae hE z (Nat.le_trans al (by omega))
  have f:=Ae f z (Nat.le_trans (Nat.le_refl _) (by omega))
  clear hI
  have hI:=y;clear y
  have bj:=bl hI
  refine oS rfl (Yk.extract (vs:= [.bool (true),NI p, .int .i32 ((g:Nat):Int)]) (vr (.tuple #[.bool (true),NI p, .int .i32 ((g:Nat):Int)]) rfl) (show _=some (.bool (true):Value)from rfl) (oZ (tN (an _ _ (sk fun bk ap=>(AE (vr (.bool (true)) rfl) (Ak (tN (ap _ _ (Ax (sk fun bm aq=>(wt (oS rfl (Yk.extract (vs:= [.bool (true),NI p, .int .i32 ((g:Nat):Int)]) (vr (.tuple #[.bool (true),NI p, .int .i32 ((g:Nat):Int)]) rfl) (show _=some (.int .i32 ((g:Nat):Int):Value)from rfl) (oA rfl (oZ (tN (aq _ _ (sk fun bn ar=>(wt ?_))))))))))))))))))))
  refine oM rfl (oM rfl (oS rfl (Yk.clo Lr (caps:= #[]) i #[.int .i32 ((g:Nat):Int)] (by simp only[List.map_toArray,List.map_cons,List.map_nil,List.append_toArray,List.cons_append,List.nil_append];exact congrArg List.toArray (DX (vr (.int .i32 ((g:Nat):Int)) rfl))) ((JE _ g).mono ?_))))
  rintro e au ⟨rfl,q⟩
  refine⟨_,rfl,?_⟩
  have hE:=hE.trans q
  have f:=f.trans q
  have hI:=eb q hI
  refine oS rfl (Yk.notB (vr (.bool (true)) rfl) (oZ (tN (ar _ _ (Al (vr (.bool (false)) rfl) (Ak (bN (Ki [(0,St (l)),(1, .func (.func 121) #[] #[]),(6,NI 0),(8, .int .i32 ((g:Nat):Int)),(15, .bool (false)),(17,PQ j 0),(18, .tuple #[.bool (true),NI p, .int .i32 ((g:Nat):Int)]),(19, .bool (true)),(24, .bool (false))] ⟨c,i,m,rfl,n,k,rfl,rfl,rfl,trivial⟩ fun bo ⟨c,i,m,T8,n,k,bq,br,bs,_⟩=>(tN (And.intro ⟨ao,c,i,m,n,k,hE,f,hI,trivial⟩ ?_))))))))))
  show l.length-au.iterPos j<l.length-am.iterPos j
  rw[Hr hI,hI0];omega
 refine sk fun bt av=>(wt (oS rfl (Yk.nextEnd (l:=l) (p:=p) k hI hlt (oS rfl (Yk.extract (vs:= [.bool (false)]) (vr (.tuple #[.bool (false)]) rfl) (show _=some (.bool (false):Value)from rfl) (oZ (tN (av _ _ (sk fun bu bv=>(Al (vr (.bool (false)) rfl) (A6 (Aw (Aw (AM (tN (ai _ _ (sk fun bw aw=>(wt (oA rfl (oZ (tN (aw _ _ (Ap ?_)))))))))))))))))))))))
 refine Ao (fn:=Tryd.f120) _ rfl [.bool (true)] (.bool (true)) rfl ⟨rfl,trivial⟩ ?_
 exact⟨by rw[hT],hE⟩

theorem NW(w:World)(l:Bs):
  Calls Tryd.prog 73 #[St l] w fun e w' =>e = .returned (.bool (Dt l))∧Ext w w' :=by
 refine calls_of_wpF (args:= [St (l)]) Tryd.func73 rfl 10 rfl (Nat.le_of_ble_eq_true rfl) ?_
 intro f hb
 have c:f 0=(St (l):Value):=hb.get 0
 clear hb
 have hE:=Ext.refl w
 refine sk fun j g=>(wt (oA rfl (oZ (tN (g _ _ (sk fun k h=>(wt (oM rfl (oS rfl (Yk.lenSt (l:=l) Dx c (oS rfl (Yk.eqI (a:=(l.length:Nat)) (b:=(256:Nat)) rfl rfl (Cl _ _ _ _) (oM rfl (Ab (St (l)) rfl rfl (gT (vr (.bool (decide ((l.length)≤(256)))) rfl)) (fun hG3=>Yk.move c ⟨rfl,rfl⟩) (AP (.bool (Cw l 0)) rfl rfl (gT (vr (.bool (decide ((l.length)≤(256)))) rfl)) (fun hG4=>Yk.callA2 Ls (mayT (vr (cond ((decide ((l.length)≤(256)))) (St (l)) undef) rfl) hG4) rfl ((My _ l (by simp only[gA,gB,gC,gD,gE]at hG4;omega)).mono (by rintro e m ⟨rfl,hx⟩;exact⟨_,rfl,rfl,hx⟩))) fun n i=> ?_)))))))))))))))
 have hE:=hE.trans i
 refine oS rfl (Yk.pickAndN (vr (.bool (decide ((l.length)≤(256)))) rfl) (fun hA=>(mayT (vr (cond ((decide ((l.length)≤(256)))) (.bool (Cw l 0)) undef) rfl) hA)) (vr (.bool (false)) rfl) fun bb8 hbb9=>(oA rfl (oZ (tN (h _ _ (Ap (Ao (fn:=Tryd.f73) _ rfl [.bool (bb8)] (.bool (bb8)) rfl ⟨rfl,trivial⟩ ?_)))))))
 subst hbb9
 exact⟨rfl,hE⟩
open Go.RowKit
set_option maxRecDepth 100000
theorem Mz:AG Tryd.prog 105:=fun _ _=>by kernel_rfl
theorem MA:AG Tryd.prog 106:=fun _ _=>by kernel_rfl
theorem G8{d:Option Tmp}{ty:TypeId}{pos:String}{af:Array Edge}{gd:Option (Nat × Bool)}(σ:Operand→Value)(w:World):(execOp σ ⟨d, .alloc 25,ty,pos,af,gd⟩).run Tryd.prog w = .ok (.value (PQ w.heap.size 0)) (w.alloc (.cells (Lib.byteCells (List.replicate 32 0)).toArray 25)):=by kernel_rfl
theorem NX:AG Tryd.prog 91:=fun _ _=>by kernel_rfl
theorem NY(w:World)(c:UInt8):
  Calls Tryd.prog 106 #[B8 c] w fun e w' =>e = .returned (.bool (El c))∧Ext w w' :=by
 refine calls_of_wpF (args:= [B8 (c)]) Tryd.func106 rfl 37 rfl (Nat.le_of_ble_eq_true rfl) ?_
 intro g hb
 have f:g 0=(B8 (c):Value):=hb.get 0
 clear hb
 have hE:=Ext.refl w
 refine sk fun j h=>(wt (oA rfl (oZ (tN (h _ _ (sk fun k i=>(wt (oM rfl (oS rfl (Yk.eqI (a:=((c).toNat:Nat)) (b:=(97:Nat)) f rfl (Dr _ _ _ _) (oM rfl (Ab (B8 (c)) rfl rfl (gT (vr (.bool (decide ((97)≤((c).toNat)))) rfl)) (fun hG3=>Yk.move f ⟨rfl,rfl⟩) (Ab (.bool (decide (((c).toNat)≤(122)))) rfl rfl (gT (vr (.bool (decide ((97)≤((c).toNat)))) rfl)) (fun hG4=>Yk.eqI (a:=(((c).toNat:Nat):Int)) (b:=((122:Nat):Int)) (mayT (vr (cond ((decide ((97)≤((c).toNat)))) (B8 (c)) undef) rfl) hG4) (vr (B8 (122)) rfl) (Cl _ .u8 ((c).toNat) (122)) ⟨rfl,rfl⟩) (oS rfl (Yk.pickAndN (vr (.bool (decide ((97)≤((c).toNat)))) rfl) (fun hA=>(mayT (vr (cond ((decide ((97)≤((c).toNat)))) (.bool (decide (((c).toNat)≤(122)))) undef) rfl) hA)) (vr (.bool (false)) rfl) fun bb5 hbb6=>(oM rfl (Ab (B8 (c)) rfl rfl (gF (vr (.bool (bb5)) rfl)) (fun hG7=>Yk.move f ⟨rfl,rfl⟩) (Ab (.bool (decide ((65)≤((c).toNat)))) rfl rfl (gF (vr (.bool (bb5)) rfl)) (fun hG8=>Yk.eqI (a:=(((c).toNat:Nat):Int)) (b:=((65:Nat):Int)) (mayT (vr (cond (!bb5) (B8 (c)) undef) rfl) hG8) (vr (B8 (65)) rfl) (Dr _ .u8 ((c).toNat) (65)) ⟨rfl,rfl⟩) ?_))))))))))))))))))
 refine Ab (.bool (decide ((65)≤((c).toNat)))) rfl rfl (gF (vr (.bool (bb5)) rfl)) (fun hG9=>Yk.move (mayT (vr (cond (!bb5) (.bool (decide ((65)≤((c).toNat)))) undef) rfl) hG9) ⟨rfl,rfl⟩) (Ab (B8 (c)) rfl rfl (geT (vr (cond (!bb5) (.bool (decide ((65)≤((c).toNat)))) undef) rfl)) (fun hG10=>Yk.move f ⟨rfl,rfl⟩) (Ab (.bool (decide (((c).toNat)≤(90)))) rfl rfl (geT (vr (cond (!bb5) (.bool (decide ((65)≤((c).toNat)))) undef) rfl)) (fun hG11=>Yk.eqI (a:=(((c).toNat:Nat):Int)) (b:=((90:Nat):Int)) (mayT (vr (cond ((!bb5)&&(decide ((65)≤((c).toNat)))) (B8 (c)) undef) rfl) hG11) (vr (B8 (90)) rfl) (Cl _ .u8 ((c).toNat) (90)) ⟨rfl,rfl⟩) (A7 ((decide ((65)≤((c).toNat)))&&(decide (((c).toNat)≤(90)))) rfl rfl (gF (vr (.bool (bb5)) rfl)) (fun hG12=>Yk.pickAnd (mayT (vr (cond (!bb5) (.bool (decide ((65)≤((c).toNat)))) undef) rfl) hG12) (fun hA=>(mayT (vr (cond ((!bb5)&&(decide ((65)≤((c).toNat)))) (.bool (decide (((c).toNat)≤(90)))) undef) rfl) (BF hG12 hA))) (vr (.bool (false)) rfl) ⟨rfl,rfl⟩) fun bb13 hbb14=>(oS rfl (Yk.pickOrN (vr (.bool (bb5)) rfl) (vr (.bool (true)) rfl) (fun hA=>(mayT (vr (cond (!bb5) (.bool (bb13)) undef) rfl) (not_i hA))) fun bb15 hbb16=>(oM rfl (Ab (B8 (c)) rfl rfl (gF (vr (.bool (bb15)) rfl)) (fun hG17=>Yk.move f ⟨rfl,rfl⟩) (Ab (.bool (decide ((48)≤((c).toNat)))) rfl rfl (gF (vr (.bool (bb15)) rfl)) (fun hG18=>Yk.eqI (a:=(((c).toNat:Nat):Int)) (b:=((48:Nat):Int)) (mayT (vr (cond (!bb15) (B8 (c)) undef) rfl) hG18) (vr (B8 (48)) rfl) (Dr _ .u8 ((c).toNat) (48)) ⟨rfl,rfl⟩) (Ab (.bool (decide ((48)≤((c).toNat)))) rfl rfl (gF (vr (.bool (bb15)) rfl)) (fun hG19=>Yk.move (mayT (vr (cond (!bb15) (.bool (decide ((48)≤((c).toNat)))) undef) rfl) hG19) ⟨rfl,rfl⟩) (Ab (B8 (c)) rfl rfl (geT (vr (cond (!bb15) (.bool (decide ((48)≤((c).toNat)))) undef) rfl)) (fun hG20=>Yk.move f ⟨rfl,rfl⟩) (Ab (.bool (decide (((c).toNat)≤(57)))) rfl rfl (geT (vr (cond (!bb15) (.bool (decide ((48)≤((c).toNat)))) undef) rfl)) (fun hG21=>Yk.eqI (a:=(((c).toNat:Nat):Int)) (b:=((57:Nat):Int)) (mayT (vr (cond ((!bb15)&&(decide ((48)≤((c).toNat)))) (B8 (c)) undef) rfl) hG21) (vr (B8 (57)) rfl) (Cl _ .u8 ((c).toNat) (57)) ⟨rfl,rfl⟩) (A7 ((decide ((48)≤((c).toNat)))&&(decide (((c).toNat)≤(57)))) rfl rfl (gF (vr (.bool (bb15)) rfl)) (fun hG22=>Yk.pickAnd (mayT (vr (cond (!bb15) (.bool (decide ((48)≤((c).toNat)))) undef) rfl) hG22) (fun hA=>(mayT (vr (cond ((!bb15)&&(decide ((48)≤((c).toNat)))) (.bool (decide (((c).toNat)≤(57)))) undef) rfl) (BF hG22 hA))) (vr (.bool (false)) rfl) ⟨rfl,rfl⟩) fun bb23 hbb24=>(oS rfl (Yk.pickOrN (vr (.bool (bb15)) rfl) (vr (.bool (true)) rfl) (fun hA=>(mayT (vr (cond (!bb15) (.bool (bb23)) undef) rfl) (not_i hA))) fun bb25 hbb26=> ?_))))))))))))))
 refine oM rfl (Ab (B8 (c)) rfl rfl (gF (vr (.bool (bb25)) rfl)) (fun hG27=>Yk.move f ⟨rfl,rfl⟩) (Ab (.bool (decide (((c).toNat:Nat)=(45)))) rfl rfl (gF (vr (.bool (bb25)) rfl)) (fun hG28=>Yk.eqI (a:=(((c).toNat:Nat):Int)) (b:=((45:Nat):Int)) (mayT (vr (cond (!bb25) (B8 (c)) undef) rfl) hG28) (vr (B8 (45)) rfl) (k_eql _ .u8 ((c).toNat) (45)) ⟨rfl,rfl⟩) (oS rfl (Yk.pickOrN (vr (.bool (bb25)) rfl) (vr (.bool (true)) rfl) (fun hA=>(mayT (vr (cond (!bb25) (.bool (decide (((c).toNat:Nat)=(45)))) undef) rfl) (not_i hA))) fun bb29 hbb30=>(oM rfl (Ab (B8 (c)) rfl rfl (gF (vr (.bool (bb29)) rfl)) (fun hG31=>Yk.move f ⟨rfl,rfl⟩) (Ab (.bool (decide (((c).toNat:Nat)=(95)))) rfl rfl (gF (vr (.bool (bb29)) rfl)) (fun hG32=>Yk.eqI (a:=(((c).toNat:Nat):Int)) (b:=((95:Nat):Int)) (mayT (vr (cond (!bb29) (B8 (c)) undef) rfl) hG32) (vr (B8 (95)) rfl) (k_eql _ .u8 ((c).toNat) (95)) ⟨rfl,rfl⟩) (oS rfl (Yk.pickOrN (vr (.bool (bb29)) rfl) (vr (.bool (true)) rfl) (fun hA=>(mayT (vr (cond (!bb29) (.bool (decide (((c).toNat:Nat)=(95)))) undef) rfl) (not_i hA))) fun bb33 hbb34=>(oM rfl (Ab (B8 (c)) rfl rfl (gF (vr (.bool (bb33)) rfl)) (fun hG35=>Yk.move f ⟨rfl,rfl⟩) (Ab (.bool (decide (((c).toNat:Nat)=(46)))) rfl rfl (gF (vr (.bool (bb33)) rfl)) (fun hG36=>Yk.eqI (a:=(((c).toNat:Nat):Int)) (b:=((46:Nat):Int)) (mayT (vr (cond (!bb33) (B8 (c)) undef) rfl) hG36) (vr (B8 (46)) rfl) (k_eql _ .u8 ((c).toNat) (46)) ⟨rfl,rfl⟩) (oS rfl (Yk.pickOrN (vr (.bool (bb33)) rfl) (vr (.bool (true)) rfl) (fun hA=>(mayT (vr (cond (!bb33) (.bool (decide (((c).toNat:Nat)=(46)))) undef) rfl) (not_i hA))) fun bb37 hbb38=>(oA rfl (oZ (tN (i _ _ (Ap ?_)))))))))))))))))))
 refine Ao (fn:=Tryd.f106) _ rfl [.bool (bb37)] (.bool (bb37)) rfl ⟨rfl,trivial⟩ ?_
 subst hbb6 hbb14 hbb16 hbb24 hbb26 hbb30 hbb34 hbb38
 exact⟨rfl,hE⟩

theorem O8(w:World)(s:Bs)(hl:s.length≠64):
  Calls Tryd.prog 105 #[St s] w fun e w' =>e = .returned (.bool false)∧Ext w w' :=by
 refine calls_of_wpF (args:= [St (s)]) Tryd.func105 rfl 11 rfl (Nat.le_of_ble_eq_true rfl) ?_
 intro c hb
 have f:c 0=(St (s):Value):=hb.get 0
 clear hb
 have hE:=Ext.refl w
 refine sk fun i g=>(wt (oA rfl (oZ (tN (g _ _ (sk fun j h=>(wt (oM rfl (oS rfl (Yk.lenSt (l:=s) Dx f (oS rfl (Yk.eqI (a:=(s.length:Nat)) (b:=(64:Nat)) rfl rfl (k_eql _ _ _ _) (oM rfl (oN (d:=6) rfl rfl rfl (vr (.bool (false)) (congrArg Value.bool (decide_eq_false (hl)))) rfl (oN (d:=6) rfl rfl rfl (vr (.bool (false)) (congrArg Value.bool (decide_eq_false (hl)))) rfl (oN (d:=6) rfl rfl rfl (vr (.bool (false)) (congrArg Value.bool (decide_eq_false (hl)))) rfl (oS rfl (Yk.pickF (vr (.bool (false)) (congrArg Value.bool (decide_eq_false (hl)))) (vr (.bool (false)) rfl) (oA rfl ?_)))))))))))))))))))
 refine oZ (tN (h _ _ (Ap (Ao (fn:=Tryd.f105) _ rfl [.bool (false)] (.bool (false)) rfl ⟨rfl,trivial⟩ ?_))))
 exact⟨rfl,hE⟩

theorem FE(w:World)(s:Bs)(hs:s.length≤9223372036854775807):
  Calls Tryd.prog 59 #[St s] w fun e w' =>e = .returned (.bool (nameB s))∧Ext w w' :=by
 refine calls_of_wpF (args:= [St (s)]) Tryd.func59 rfl 41 rfl (Nat.le_of_ble_eq_true rfl) ?_
 intro k hb
 have c:k 0=(St (s):Value):=hb.get 0
 clear hb
 have hE:=Ext.refl w
 refine sk fun K1 n=>(wt (oA rfl (oZ (tN (n _ _ (sk fun K2 o=>(sk fun K3 p=>(wt (oM rfl (oS rfl (Yk.lenSt (l:=s) Dx c (oS rfl (Yk.eqI (a:=(s.length:Nat)) (b:=(1:Nat)) rfl rfl (AZ _ _ _ _) (oM rfl (Ab (St (s)) rfl rfl (gF (vr (.bool (decide ((s.length)<(1)))) rfl)) (fun hG4=>Yk.move c ⟨rfl,rfl⟩) (Ab (NI s.length) rfl rfl (gF (vr (.bool (decide ((s.length)<(1)))) rfl)) (fun hG5=>Yk.lenSt (l:=s) Dx (mayT (vr (cond (!(decide ((s.length)<(1)))) (St (s)) undef) rfl) hG5) ⟨rfl,rfl⟩) (Ab (.bool (decide ((32)<(s.length)))) rfl rfl (gF (vr (.bool (decide ((s.length)<(1)))) rfl)) (fun hG6=>Yk.eqI (a:=((s.length:Nat):Int)) (b:=((32:Nat):Int)) (mayT (vr (cond (!(decide ((s.length)<(1)))) (NI s.length) undef) rfl) hG6) (vr (NI 32) rfl) (Ce _ .i64 (s.length) (32)) ⟨rfl,rfl⟩) (oS rfl (Yk.pickOrN (vr (.bool (decide ((s.length)<(1)))) rfl) (vr (.bool (true)) rfl) (fun hA=>(mayT (vr (cond (!(decide ((s.length)<(1)))) (.bool (decide ((32)<(s.length)))) undef) rfl) (not_i hA))) fun bb7 hbb8=> ?_)))))))))))))))))))
 refine oM rfl (Ab (St (s)) rfl rfl (gF (vr (.bool (bb7)) rfl)) (fun hG9=>Yk.move c ⟨rfl,rfl⟩) (Ab (B8 (s.getD (0) 0)) rfl rfl (gF (vr (.bool (bb7)) rfl)) (fun hG10=>Yk.idxSt (l:=s) (i:=0) Dx (mayT (vr (cond (!bb7) (St (s)) undef) rfl) hG10) (vr (NI 0) rfl) (by simp only[hbb8,gA,gB,gC,gD,gE]at hG10;omega) ⟨rfl,rfl⟩) (Ab (.bool (decide (((s.getD (0) 0).toNat:Nat)=(46)))) rfl rfl (gF (vr (.bool (bb7)) rfl)) (fun hG11=>Yk.eqI (a:=(((s.getD (0) 0).toNat:Nat):Int)) (b:=((46:Nat):Int)) (mayT (vr (cond (!bb7) (B8 (s.getD (0) 0)) undef) rfl) hG11) (vr (B8 (46)) rfl) (k_eql _ .u8 ((s.getD (0) 0).toNat) (46)) ⟨rfl,rfl⟩) (oS rfl (Yk.pickOrN (vr (.bool (bb7)) rfl) (vr (.bool (true)) rfl) (fun hA=>(mayT (vr (cond (!bb7) (.bool (decide (((s.getD (0) 0).toNat:Nat)=(46)))) undef) rfl) (not_i hA))) fun bb12 hbb13=>(oM rfl (Ab (St (s)) rfl rfl (gF (vr (.bool (bb12)) rfl)) (fun hG14=>Yk.move c ⟨rfl,rfl⟩) (Ab (B8 (s.getD (0) 0)) rfl rfl (gF (vr (.bool (bb12)) rfl)) (fun hG15=>Yk.idxSt (l:=s) (i:=0) Dx (mayT (vr (cond (!bb12) (St (s)) undef) rfl) hG15) (vr (NI 0) rfl) (by simp only[hbb8,hbb13,gA,gB,gC,gD,gE]at hG15;omega) ⟨rfl,rfl⟩) (Ab (.bool (decide (((s.getD (0) 0).toNat:Nat)=(45)))) rfl rfl (gF (vr (.bool (bb12)) rfl)) (fun hG16=>Yk.eqI (a:=(((s.getD (0) 0).toNat:Nat):Int)) (b:=((45:Nat):Int)) (mayT (vr (cond (!bb12) (B8 (s.getD (0) 0)) undef) rfl) hG16) (vr (B8 (45)) rfl) (k_eql _ .u8 ((s.getD (0) 0).toNat) (45)) ⟨rfl,rfl⟩) (oS rfl (Yk.pickOrN (vr (.bool (bb12)) rfl) (vr (.bool (true)) rfl) (fun hA=>(mayT (vr (cond (!bb12) (.bool (decide (((s.getD (0) 0).toNat:Nat)=(45)))) undef) rfl) (not_i hA))) fun bb17 hbb18=>(oM rfl (Ab (St (s)) rfl rfl (gF (vr (.bool (bb17)) rfl)) (fun hG19=>Yk.move c ⟨rfl,rfl⟩) (Ab (.bool (decide (s=(([72,69,65,68]:List UInt8):List UInt8)))) rfl rfl (gF (vr (.bool (bb17)) rfl)) (fun hG20=>Yk.eqSt (l:=s) (m:=([72,69,65,68]:List UInt8)) (.inl rfl) (mayT (vr (cond (!bb17) (St (s)) undef) rfl) hG20) (vr (St (([72,69,65,68]:List UInt8))) rfl) (decide (s=(([72,69,65,68]:List UInt8):List UInt8))) rfl ⟨rfl,rfl⟩) (oS rfl (Yk.pickOrN (vr (.bool (bb17)) rfl) (vr (.bool (true)) rfl) (fun hA=>(mayT (vr (cond (!bb17) (.bool (decide (s=(([72,69,65,68]:List UInt8):List UInt8)))) undef) rfl) (not_i hA))) fun bb21 hbb22=>(oM rfl (Ab (St (s)) rfl rfl (gF (vr (.bool (bb21)) rfl)) (fun hG23=>Yk.move c ⟨rfl,rfl⟩) ?_))))))))))))))))))
 refine AP (.bool (false)) rfl rfl (gF (vr (.bool (bb21)) rfl)) (fun hG24=>Yk.callA1 Mz (mayT (vr (cond (!bb21) (St (s)) undef) rfl) hG24) ((O8 _ s (by simp only[hbb8,hbb13,hbb18,hbb22,gA,gB,gC,gD,gE]at hG24;omega)).mono (by rintro e w2 ⟨rfl,hx⟩;exact⟨_,rfl,rfl,hx⟩))) fun al q=> ?_
 have hE:=hE.trans q
 refine oS rfl (Yk.pickOrN (vr (.bool (bb21)) rfl) (vr (.bool (true)) rfl) (fun hA=>(mayT (vr (cond (!bb21) (.bool (false)) undef) rfl) (not_i hA))) fun bb28 hbb29=>(oZ (tN (p _ _ ?_))))
 refine A0 (bb28) (vr (.bool (bb28)) rfl) (fun h=> ?_) (fun h=> ?_)
 ·subst hbb8 hbb13 hbb18 hbb22 hbb29
  rw[Bool.or_false]at h
  refine sk fun am r=>(wt (oA rfl (oZ (tN (r _ _ (Ap (As (Ao (fn:=Tryd.f59) _ rfl [.bool (false)] (.bool (false)) rfl ⟨rfl,trivial⟩ ?_))))))))
  exact⟨by rw[Hu (s:=s) h],hE⟩
 subst hbb8 hbb13 hbb18 hbb22 hbb29
 rw[Bool.or_false]at h
 have hh:DY s=false:=h
 have hsl:=Ge hh
 refine Ak (tN (o _ _ (sk fun an t=>(sk fun ao u=>(wt (oM rfl (oS rfl (Yk.lenSt (l:=s) Dx c (oM rfl (Be [(0,St (s)),(2, .bool (false)),(31,NI s.length),(32,NI 0)] ⟨c,rfl,rfl,rfl,trivial⟩ fun ap ⟨c,T2,g,f,_⟩=>(tN (u _ _ (Ax (Bc (fun(ρ:At) (wz:World)=>∃i:Nat,ρ 0=(St (s):Value)∧ρ 31=(NI s.length:Value)∧ρ 32=(NI i:Value)∧Ext w wz∧(i≤s.length)∧((s.take i).all El=true)∧True) (fun ρ _=>s.length-(intOf (ρ 32)).toNat) ⟨0,c,g,f,hE,Nat.zero_le _,by simp,trivial⟩ ?_))))))))))))))
 clear hE
 rintro v ar ⟨i,c,g,f,hE,hi,ha,-⟩
 have q32:=f
 refine sk fun au x=>(wt (oS rfl (Yk.eqI (a:=(i:Nat)) (b:=(s.length:Nat)) f g (AZ _ _ _ _) (oZ (tN (x _ _ (sk fun av y=> ?_)))))))
 refine A2 ((i)<(s.length)) (vr (.bool (decide ((i)<(s.length)))) rfl) (fun z=> ?_) (fun z=> ?_)
 ·refine Ak (tN (y _ _ (sk fun aw aa=>(Ax (sk fun ax ab=>(wt (oM rfl (oA rfl (oZ (tN (ab _ _ (sk fun ay ac=>(wt (oM rfl (oM rfl (oS rfl (Yk.idxSt (l:=s) (i:=i) Dx c f (by omega) (oS rfl (Yk.callA1 MA (vr (B8 (s.getD (i) 0)) rfl) ?_)))))))))))))))))))
  refine(NY _ (s.getD (i) 0)).mono ?_
  rintro e az ⟨rfl,ad⟩
  refine⟨_,rfl,?_⟩
  have hE:=hE.trans ad
  refine oS rfl (Yk.notB (vr (.bool (El (s.getD (i) 0))) rfl) (oZ (tN (ac _ _ ?_))))
  refine A0 (!(El (s.getD (i) 0))) (vr (.bool (!(El (s.getD (i) 0)))) rfl) (fun j=> ?_) (fun j=> ?_)
  ·refine sk fun a0 ae=>(wt (oA rfl (oZ (tN (ae _ _ (Ap (AC (As (As (AC (As (Ao (fn:=Tryd.f59) _ rfl [.bool (false)] (.bool (false)) rfl ⟨rfl,trivial⟩ ?_))))))))))))
   exact⟨by rw[Iz (show i<s.length by omega) (Lk j)],hE⟩
  refine Ak (bN (tN (aa _ _ (wt (oS rfl (Yk.bin (xv:=NI i) (yv:=NI 1) f rfl rfl (AN _ _ _ (by omega)) (oM rfl (Be [(0,St (s)),(3,NI i),(31,NI s.length),(32,NI ((i)+(1)))] ⟨c,f,g,rfl,trivial⟩ fun af ⟨c,T3,g,f,_⟩=>(tN (And.intro ⟨i+1,c,g,f,hE,by omega,JC 0 (by omega) ha (Lj j),trivial⟩ ?_))))))))))
  show s.length-(intOf (af 32)).toNat<s.length-(intOf (v 32)).toNat
  rw[f,q32]
  simp only[intOf,Int.toNat_natCast];omega
 refine A6 (Aw (Aw (AM (tN (t _ _ (sk fun a2 ag=>(wt (oA rfl (oZ (tN (ag _ _ (Ap (Ao (fn:=Tryd.f59) _ rfl [.bool (true)] (.bool (true)) rfl ⟨rfl,trivial⟩ ?_)))))))))))))
 exact⟨by rw[IA hh (by omega) ha],hE⟩

theorem Ii(w:World)(s:Bs)(hl:s.length≠64):
  Calls Tryd.prog 91 #[St s] w fun e w' =>e = .returned (.tuple #[AB (List.replicate 32 0), .bool false])∧Ext w w' :=by
 refine calls_of_wpF (args:= [St (s)]) Tryd.func91 rfl 42 rfl (Nat.le_of_ble_eq_true rfl) ?_
 intro q hb
 have r:q 0=(St (s):Value):=hb.get 0
 clear hb
 have hE:=Ext.refl w
 refine sk fun K1 t=>(wt (oS rfl (Yk.alloc (cs:=(Lib.byteCells (List.replicate 32 0)).toArray) G8 fun i j ac k u ad=> ?_)))
 have hE:=hE.trans u
 have c:=k;clear k
 have ae:i<j.heap.size:=by omega
 refine oA rfl (oZ (tN (t _ _ (sk fun af v=>(wt (oS rfl (Yk.alloc (cs:=(Lib.byteCells (List.replicate 32 0)).toArray) G8 fun m x y n f ag=> ?_)))))))
 have g:=Ext.refl j
 have ah:=hE
 have ai:=hE.size
 have aj:=Bn (bl c) y
 have hE:=hE.trans f
 have c:=eb f c
 have g:=g.trans f
 have h:=n;clear n
 have ak:m<x.heap.size:=by omega
 refine oZ (tN (v _ _ (sk fun al am=>(sk fun an z=>(wt (oM rfl (oS rfl (Yk.lenSt (l:=s) Dx r (oS rfl (Yk.eqI (a:=(s.length:Nat)) (b:=(64:Nat)) rfl rfl (DW _ _ _ _) (oZ (tN (z _ _ (AE (vr (.bool (true)) (congrArg Value.bool (decide_eq_true (hl)))) (sk fun ao aa=>(wt (oS rfl (Yk.loadAll (vr (PQ m 0) rfl) h OA rfl (by exact AH List.length_replicate) (oS rfl (Yk.storeAll (vr (PQ i 0) rfl) (vr (AB (List.replicate 32 0)) rfl) c (by exact EJ List.length_replicate List.length_replicate) (by exact AH List.length_replicate) (AI _) fun ap o p aq=> ?_))))))))))))))))))))
 have hE:=Ae hE p (Nat.le_trans (Nat.le_refl _) (by omega))
 clear c
 clear g
 have h:=kb p h (by omega)
 have c:=o;clear o
 have ar:=bl c
 refine oA rfl (oZ (tN (aa _ _ (Ap (As (Ao (fn:=Tryd.f91) _ rfl [AB (List.replicate 32 0), .bool (false)] (.tuple #[AB (List.replicate 32 0), .bool (false)]) rfl ⟨ResF.row rfl c OA rfl (by exact AH List.length_replicate),rfl,trivial⟩ ?_))))))
 exact⟨rfl,hE⟩

theorem GR(w:World)(s:Bs)(hs:s.length≤9223372036854775807):
  Calls Tryd.prog 64 #[St s] w fun e w' =>e = .returned (.bool (nameB s))∧Ext w w' :=by
 refine calls_of_wpF (args:= [St (s)]) Tryd.func64 rfl 80 rfl (Nat.le_of_ble_eq_true rfl) ?_
 intro q hb
 have c:q 0=(St (s):Value):=hb.get 0
 clear hb
 have hE:=Ext.refl w
 refine sk fun K1 r=>(wt (oA rfl (oZ (tN (r _ _ (sk fun K2 t=>(sk fun K3 u=>(wt (oM rfl (oS rfl (Yk.lenSt (l:=s) Dx c (oS rfl (Yk.eqI (a:=(s.length:Nat)) (b:=(1:Nat)) rfl rfl (AZ _ _ _ _) (oM rfl (Ab (St (s)) rfl rfl (gF (vr (.bool (decide ((s.length)<(1)))) rfl)) (fun hG4=>Yk.move c ⟨rfl,rfl⟩) (Ab (NI s.length) rfl rfl (gF (vr (.bool (decide ((s.length)<(1)))) rfl)) (fun hG5=>Yk.lenSt (l:=s) Dx (mayT (vr (cond (!(decide ((s.length)<(1)))) (St (s)) undef) rfl) hG5) ⟨rfl,rfl⟩) (Ab (.bool (decide ((32)<(s.length)))) rfl rfl (gF (vr (.bool (decide ((s.length)<(1)))) rfl)) (fun hG6=>Yk.eqI (a:=((s.length:Nat):Int)) (b:=((32:Nat):Int)) (mayT (vr (cond (!(decide ((s.length)<(1)))) (NI s.length) undef) rfl) hG6) (vr (NI 32) rfl) (Ce _ .i64 (s.length) (32)) ⟨rfl,rfl⟩) (oS rfl (Yk.pickOrN (vr (.bool (decide ((s.length)<(1)))) rfl) (vr (.bool (true)) rfl) (fun hA=>(mayT (vr (cond (!(decide ((s.length)<(1)))) (.bool (decide ((32)<(s.length)))) undef) rfl) (not_i hA))) fun bb7 hbb8=> ?_)))))))))))))))))))
 refine oM rfl (Ab (St (s)) rfl rfl (gF (vr (.bool (bb7)) rfl)) (fun hG9=>Yk.move c ⟨rfl,rfl⟩) (Ab (.bool (decide (s=(([72,69,65,68]:List UInt8):List UInt8)))) rfl rfl (gF (vr (.bool (bb7)) rfl)) (fun hG10=>Yk.eqSt (l:=s) (m:=([72,69,65,68]:List UInt8)) (.inl rfl) (mayT (vr (cond (!bb7) (St (s)) undef) rfl) hG10) (vr (St (([72,69,65,68]:List UInt8))) rfl) (decide (s=(([72,69,65,68]:List UInt8):List UInt8))) rfl ⟨rfl,rfl⟩) (oS rfl (Yk.pickOrN (vr (.bool (bb7)) rfl) (vr (.bool (true)) rfl) (fun hA=>(mayT (vr (cond (!bb7) (.bool (decide (s=(([72,69,65,68]:List UInt8):List UInt8)))) undef) rfl) (not_i hA))) fun bb11 hbb12=>(oM rfl (Ab (St (s)) rfl rfl (gF (vr (.bool (bb11)) rfl)) (fun hG13=>Yk.move c ⟨rfl,rfl⟩) (Ab (B8 (s.getD (0) 0)) rfl rfl (gF (vr (.bool (bb11)) rfl)) (fun hG14=>Yk.idxSt (l:=s) (i:=0) Dx (mayT (vr (cond (!bb11) (St (s)) undef) rfl) hG14) (vr (NI 0) rfl) (by simp only[hbb8,hbb12,gA,gB,gC,gD,gE]at hG14;omega) ⟨rfl,rfl⟩) (Ab (.bool (decide (((s.getD (0) 0).toNat:Nat)=(46)))) rfl rfl (gF (vr (.bool (bb11)) rfl)) (fun hG15=>Yk.eqI (a:=(((s.getD (0) 0).toNat:Nat):Int)) (b:=((46:Nat):Int)) (mayT (vr (cond (!bb11) (B8 (s.getD (0) 0)) undef) rfl) hG15) (vr (B8 (46)) rfl) (k_eql _ .u8 ((s.getD (0) 0).toNat) (46)) ⟨rfl,rfl⟩) (oS rfl (Yk.pickOrN (vr (.bool (bb11)) rfl) (vr (.bool (true)) rfl) (fun hA=>(mayT (vr (cond (!bb11) (.bool (decide (((s.getD (0) 0).toNat:Nat)=(46)))) undef) rfl) (not_i hA))) fun bb16 hbb17=>(oM rfl (Ab (St (s)) rfl rfl (gF (vr (.bool (bb16)) rfl)) (fun hG18=>Yk.move c ⟨rfl,rfl⟩) (Ab (B8 (s.getD (0) 0)) rfl rfl (gF (vr (.bool (bb16)) rfl)) (fun hG19=>Yk.idxSt (l:=s) (i:=0) Dx (mayT (vr (cond (!bb16) (St (s)) undef) rfl) hG19) (vr (NI 0) rfl) (by simp only[hbb8,hbb12,hbb17,gA,gB,gC,gD,gE]at hG19;omega) ⟨rfl,rfl⟩) (Ab (.bool (decide (((s.getD (0) 0).toNat:Nat)=(45)))) rfl rfl (gF (vr (.bool (bb16)) rfl)) (fun hG20=>Yk.eqI (a:=(((s.getD (0) 0).toNat:Nat):Int)) (b:=((45:Nat):Int)) (mayT (vr (cond (!bb16) (B8 (s.getD (0) 0)) undef) rfl) hG20) (vr (B8 (45)) rfl) (k_eql _ .u8 ((s.getD (0) 0).toNat) (45)) ⟨rfl,rfl⟩) (oS rfl (Yk.pickOrN (vr (.bool (bb16)) rfl) (vr (.bool (true)) rfl) (fun hA=>(mayT (vr (cond (!bb16) (.bool (decide (((s.getD (0) 0).toNat:Nat)=(45)))) undef) rfl) (not_i hA))) fun bb21 hbb22=>(oZ (tN (u _ _ ?_)))))))))))))))))))
 refine A0 (bb21) (vr (.bool (bb21)) rfl) (fun h=> ?_) (fun h=> ?_)
 ·subst hbb8 hbb12 hbb17 hbb22
  refine sk fun av v=>(wt (oA rfl (oZ (tN (v _ _ (Ap (As (Ao (fn:=Tryd.f64) _ rfl [.bool (false)] (.bool (false)) rfl ⟨rfl,trivial⟩ ?_))))))))
  exact⟨by rw[Hu ((JB s).symm.trans h)],hE⟩
 subst hbb8 hbb12 hbb17 hbb22
 have hh:DY s=false:=(JB s).symm.trans h
 have hsl:=Ge hh
 refine Ak (tN (t _ _ (sk fun aw x=>(sk fun ax y=>(wt (oA rfl (Be [(0,St (s)),(2, .bool (false)),(3,NI 0)] ⟨c,rfl,rfl,trivial⟩ fun ay ⟨c,T2,f,_⟩=>(tN (y _ _ (Ax (Bc (fun(ρ:At) (wz:World)=>∃i:Nat,ρ 0=(St (s):Value)∧ρ 3=(NI i:Value)∧Ext w wz∧(i≤s.length)∧((s.take i).all El=true)∧True) (fun ρ _=>s.length-(intOf (ρ 3)).toNat) ⟨0,c,f,hE,Nat.zero_le _,by simp,trivial⟩ ?_)))))))))))
 clear hE
 rintro z a0 ⟨i,c,f,hE,hi,ha,-⟩
 have q3:=f
 refine sk fun a1 aa=>(sk fun a2 ab=>(wt (oM rfl (oM rfl (oS rfl (Yk.lenSt (l:=s) Dx c (oS rfl (Yk.eqI (a:=(i:Nat)) (b:=(s.length:Nat)) f rfl (AZ _ _ _ _) (oZ (tN (ab _ _ ?_)))))))))))
 refine A2 ((i)<(s.length)) (vr (.bool (decide ((i)<(s.length)))) rfl) (fun ac=> ?_) (fun ac=> ?_)
 ·refine Ak (tN (aa _ _ (sk fun a3 ad=>(Ax (sk fun a4 ae=>(wt (oM rfl (oM rfl (oS rfl (Yk.idxSt (l:=s) (i:=i) Dx c f (by omega) (oA rfl (oZ (tN (ae _ _ (sk fun a5 af=>(wt (oM rfl (oS rfl (Yk.eqI (a:=((s.getD (i) 0).toNat:Nat)) (b:=(97:Nat)) rfl rfl (Dr _ _ _ _) ?_)))))))))))))))))))
  refine oM rfl (Ab (B8 (s.getD (i) 0)) rfl rfl (gT (vr (.bool (decide ((97)≤((s.getD (i) 0).toNat)))) rfl)) (fun hG34=>Yk.move (vr (B8 (s.getD (i) 0)) rfl) ⟨rfl,rfl⟩) (Ab (.bool (decide (((s.getD (i) 0).toNat)≤(122)))) rfl rfl (gT (vr (.bool (decide ((97)≤((s.getD (i) 0).toNat)))) rfl)) (fun hG35=>Yk.eqI (a:=(((s.getD (i) 0).toNat:Nat):Int)) (b:=((122:Nat):Int)) (mayT (vr (cond ((decide ((97)≤((s.getD (i) 0).toNat)))) (B8 (s.getD (i) 0)) undef) rfl) hG35) (vr (B8 (122)) rfl) (Cl _ .u8 ((s.getD (i) 0).toNat) (122)) ⟨rfl,rfl⟩) (oS rfl (Yk.pickAndN (vr (.bool (decide ((97)≤((s.getD (i) 0).toNat)))) rfl) (fun hA=>(mayT (vr (cond ((decide ((97)≤((s.getD (i) 0).toNat)))) (.bool (decide (((s.getD (i) 0).toNat)≤(122)))) undef) rfl) hA)) (vr (.bool (false)) rfl) fun bb36 hbb37=>(oM rfl (Ab (B8 (s.getD (i) 0)) rfl rfl (gF (vr (.bool (bb36)) rfl)) (fun hG38=>Yk.move (vr (B8 (s.getD (i) 0)) rfl) ⟨rfl,rfl⟩) (Ab (.bool (decide ((65)≤((s.getD (i) 0).toNat)))) rfl rfl (gF (vr (.bool (bb36)) rfl)) (fun hG39=>Yk.eqI (a:=(((s.getD (i) 0).toNat:Nat):Int)) (b:=((65:Nat):Int)) (mayT (vr (cond (!bb36) (B8 (s.getD (i) 0)) undef) rfl) hG39) (vr (B8 (65)) rfl) (Dr _ .u8 ((s.getD (i) 0).toNat) (65)) ⟨rfl,rfl⟩) (Ab (.bool (decide ((65)≤((s.getD (i) 0).toNat)))) rfl rfl (gF (vr (.bool (bb36)) rfl)) (fun hG40=>Yk.move (mayT (vr (cond (!bb36) (.bool (decide ((65)≤((s.getD (i) 0).toNat)))) undef) rfl) hG40) ⟨rfl,rfl⟩) (Ab (B8 (s.getD (i) 0)) rfl rfl (geT (vr (cond (!bb36) (.bool (decide ((65)≤((s.getD (i) 0).toNat)))) undef) rfl)) (fun hG41=>Yk.move (vr (B8 (s.getD (i) 0)) rfl) ⟨rfl,rfl⟩) (Ab (.bool (decide (((s.getD (i) 0).toNat)≤(90)))) rfl rfl (geT (vr (cond (!bb36) (.bool (decide ((65)≤((s.getD (i) 0).toNat)))) undef) rfl)) (fun hG42=>Yk.eqI (a:=(((s.getD (i) 0).toNat:Nat):Int)) (b:=((90:Nat):Int)) (mayT (vr (cond ((!bb36)&&(decide ((65)≤((s.getD (i) 0).toNat)))) (B8 (s.getD (i) 0)) undef) rfl) hG42) (vr (B8 (90)) rfl) (Cl _ .u8 ((s.getD (i) 0).toNat) (90)) ⟨rfl,rfl⟩) (A7 ((decide ((65)≤((s.getD (i) 0).toNat)))&&(decide (((s.getD (i) 0).toNat)≤(90)))) rfl rfl (gF (vr (.bool (bb36)) rfl)) (fun hG43=>Yk.pickAnd (mayT (vr (cond (!bb36) (.bool (decide ((65)≤((s.getD (i) 0).toNat)))) undef) rfl) hG43) (fun hA=>(mayT (vr (cond ((!bb36)&&(decide ((65)≤((s.getD (i) 0).toNat)))) (.bool (decide (((s.getD (i) 0).toNat)≤(90)))) undef) rfl) (BF hG43 hA))) (vr (.bool (false)) rfl) ⟨rfl,rfl⟩) fun bb44 hbb45=>(oS rfl (Yk.pickOrN (vr (.bool (bb36)) rfl) (vr (.bool (true)) rfl) (fun hA=>(mayT (vr (cond (!bb36) (.bool (bb44)) undef) rfl) (not_i hA))) fun bb46 hbb47=>(oM rfl (Ab (B8 (s.getD (i) 0)) rfl rfl (gF (vr (.bool (bb46)) rfl)) (fun hG48=>Yk.move (vr (B8 (s.getD (i) 0)) rfl) ⟨rfl,rfl⟩) (Ab (.bool (decide ((48)≤((s.getD (i) 0).toNat)))) rfl rfl (gF (vr (.bool (bb46)) rfl)) (fun hG49=>Yk.eqI (a:=(((s.getD (i) 0).toNat:Nat):Int)) (b:=((48:Nat):Int)) (mayT (vr (cond (!bb46) (B8 (s.getD (i) 0)) undef) rfl) hG49) (vr (B8 (48)) rfl) (Dr _ .u8 ((s.getD (i) 0).toNat) (48)) ⟨rfl,rfl⟩) ?_))))))))))))))))
  refine Ab (.bool (decide ((48)≤((s.getD (i) 0).toNat)))) rfl rfl (gF (vr (.bool (bb46)) rfl)) (fun hG50=>Yk.move (mayT (vr (cond (!bb46) (.bool (decide ((48)≤((s.getD (i) 0).toNat)))) undef) rfl) hG50) ⟨rfl,rfl⟩) (Ab (B8 (s.getD (i) 0)) rfl rfl (geT (vr (cond (!bb46) (.bool (decide ((48)≤((s.getD (i) 0).toNat)))) undef) rfl)) (fun hG51=>Yk.move (vr (B8 (s.getD (i) 0)) rfl) ⟨rfl,rfl⟩) (Ab (.bool (decide (((s.getD (i) 0).toNat)≤(57)))) rfl rfl (geT (vr (cond (!bb46) (.bool (decide ((48)≤((s.getD (i) 0).toNat)))) undef) rfl)) (fun hG52=>Yk.eqI (a:=(((s.getD (i) 0).toNat:Nat):Int)) (b:=((57:Nat):Int)) (mayT (vr (cond ((!bb46)&&(decide ((48)≤((s.getD (i) 0).toNat)))) (B8 (s.getD (i) 0)) undef) rfl) hG52) (vr (B8 (57)) rfl) (Cl _ .u8 ((s.getD (i) 0).toNat) (57)) ⟨rfl,rfl⟩) (A7 ((decide ((48)≤((s.getD (i) 0).toNat)))&&(decide (((s.getD (i) 0).toNat)≤(57)))) rfl rfl (gF (vr (.bool (bb46)) rfl)) (fun hG53=>Yk.pickAnd (mayT (vr (cond (!bb46) (.bool (decide ((48)≤((s.getD (i) 0).toNat)))) undef) rfl) hG53) (fun hA=>(mayT (vr (cond ((!bb46)&&(decide ((48)≤((s.getD (i) 0).toNat)))) (.bool (decide (((s.getD (i) 0).toNat)≤(57)))) undef) rfl) (BF hG53 hA))) (vr (.bool (false)) rfl) ⟨rfl,rfl⟩) fun bb54 hbb55=>(oS rfl (Yk.pickOrN (vr (.bool (bb46)) rfl) (vr (.bool (true)) rfl) (fun hA=>(mayT (vr (cond (!bb46) (.bool (bb54)) undef) rfl) (not_i hA))) fun bb56 hbb57=>(oM rfl (Ab (B8 (s.getD (i) 0)) rfl rfl (gF (vr (.bool (bb56)) rfl)) (fun hG58=>Yk.move (vr (B8 (s.getD (i) 0)) rfl) ⟨rfl,rfl⟩) (Ab (.bool (decide (((s.getD (i) 0).toNat:Nat)=(45)))) rfl rfl (gF (vr (.bool (bb56)) rfl)) (fun hG59=>Yk.eqI (a:=(((s.getD (i) 0).toNat:Nat):Int)) (b:=((45:Nat):Int)) (mayT (vr (cond (!bb56) (B8 (s.getD (i) 0)) undef) rfl) hG59) (vr (B8 (45)) rfl) (k_eql _ .u8 ((s.getD (i) 0).toNat) (45)) ⟨rfl,rfl⟩) (oS rfl (Yk.pickOrN (vr (.bool (bb56)) rfl) (vr (.bool (true)) rfl) (fun hA=>(mayT (vr (cond (!bb56) (.bool (decide (((s.getD (i) 0).toNat:Nat)=(45)))) undef) rfl) (not_i hA))) fun bb60 hbb61=>(oM rfl (Ab (B8 (s.getD (i) 0)) rfl rfl (gF (vr (.bool (bb60)) rfl)) (fun hG62=>Yk.move (vr (B8 (s.getD (i) 0)) rfl) ⟨rfl,rfl⟩) (Ab (.bool (decide (((s.getD (i) 0).toNat:Nat)=(95)))) rfl rfl (gF (vr (.bool (bb60)) rfl)) (fun hG63=>Yk.eqI (a:=(((s.getD (i) 0).toNat:Nat):Int)) (b:=((95:Nat):Int)) (mayT (vr (cond (!bb60) (B8 (s.getD (i) 0)) undef) rfl) hG63) (vr (B8 (95)) rfl) (k_eql _ .u8 ((s.getD (i) 0).toNat) (95)) ⟨rfl,rfl⟩) (oS rfl (Yk.pickOrN (vr (.bool (bb60)) rfl) (vr (.bool (true)) rfl) (fun hA=>(mayT (vr (cond (!bb60) (.bool (decide (((s.getD (i) 0).toNat:Nat)=(95)))) undef) rfl) (not_i hA))) fun bb64 hbb65=>(oM rfl (Ab (B8 (s.getD (i) 0)) rfl rfl (gF (vr (.bool (bb64)) rfl)) (fun hG66=>Yk.move (vr (B8 (s.getD (i) 0)) rfl) ⟨rfl,rfl⟩) ?_)))))))))))))))))
  refine Ab (.bool (decide (((s.getD (i) 0).toNat:Nat)=(46)))) rfl rfl (gF (vr (.bool (bb64)) rfl)) (fun hG67=>Yk.eqI (a:=(((s.getD (i) 0).toNat:Nat):Int)) (b:=((46:Nat):Int)) (mayT (vr (cond (!bb64) (B8 (s.getD (i) 0)) undef) rfl) hG67) (vr (B8 (46)) rfl) (k_eql _ .u8 ((s.getD (i) 0).toNat) (46)) ⟨rfl,rfl⟩) (oS rfl (Yk.pickOrN (vr (.bool (bb64)) rfl) (vr (.bool (true)) rfl) (fun hA=>(mayT (vr (cond (!bb64) (.bool (decide (((s.getD (i) 0).toNat:Nat)=(46)))) undef) rfl) (not_i hA))) fun bb68 hbb69=>(oS rfl (Yk.notB (vr (.bool (bb68)) rfl) (Be [(0,St (s)),(3,NI i),(4,B8 (s.getD (i) 0)),(72, .bool (!(bb68)))] ⟨c,f,rfl,rfl,trivial⟩ fun a6 ⟨c,f,k,ag,_⟩=>(tN (af _ _ ?_)))))))
  refine A0 (!(bb68)) ag (fun j=> ?_) (fun j=> ?_)
  ·subst hbb37 hbb45 hbb47 hbb55 hbb57 hbb61 hbb65 hbb69
   refine sk fun a7 ah=>(wt (oA rfl (oZ (tN (ah _ _ (Ap (AC (As (As (AC (As (Ao (fn:=Tryd.f64) _ rfl [.bool (false)] (.bool (false)) rfl ⟨rfl,trivial⟩ ?_))))))))))))
   exact⟨by rw[Iz (show i<s.length by omega) (Lk j)],hE⟩
  subst hbb37 hbb45 hbb47 hbb55 hbb57 hbb61 hbb65 hbb69
  refine Ak (bN (tN (ad _ _ (wt (oM rfl (oS rfl (Yk.bin (xv:=NI i) (yv:=NI 1) f rfl rfl (AN _ _ _ (by omega)) (oA rfl (Be [(0,St (s)),(3,NI ((i)+(1))),(4,B8 (s.getD (i) 0))] ⟨c,rfl,k,trivial⟩ fun ai ⟨c,f,k,_⟩=>(tN (And.intro ⟨i+1,c,f,hE,by omega,JC 0 (by omega) ha (Lj j),trivial⟩ ?_)))))))))))
  show s.length-(intOf (ai 3)).toNat<s.length-(intOf (z 3)).toNat
  rw[f,q3]
  simp only[intOf,Int.toNat_natCast];omega
 refine A6 (Aw (Aw (AM (tN (x _ _ (sk fun a8 aj=>(wt (oM rfl (oS rfl (Yk.callA1 NX c ((Ii _ s (by omega)).mono ?_)))))))))))
 rintro e a9 ⟨rfl,ak⟩
 refine⟨_,rfl,?_⟩
 have hE:=hE.trans ak
 refine oM rfl (oS rfl (Yk.extract (vs:= [AB (List.replicate 32 0), .bool (false)]) (vr (.tuple #[AB (List.replicate 32 0), .bool (false)]) rfl) (show _=some (AB (List.replicate 32 0):Value)from rfl) (oS rfl (Yk.extract (vs:= [AB (List.replicate 32 0), .bool (false)]) (vr (.tuple #[AB (List.replicate 32 0), .bool (false)]) rfl) (show _=some (.bool (false):Value)from rfl) (oS rfl (Yk.alloc (cs:=(Lib.byteCells (List.replicate 32 0)).toArray) G8 fun n al ba o am bb=> ?_))))))
 have an:=hE.size
 have hE:=hE.trans am
 have g:=o;clear o
 have bc:n<al.heap.size:=by omega
 refine oS rfl (Yk.storeAll (vr (PQ n 0) rfl) (vr (AB (List.replicate 32 0)) rfl) g (by exact EJ List.length_replicate List.length_replicate) (by exact AH List.length_replicate) (AI _) fun bd p ao be=> ?_)
 have hE:=Ae hE ao (Nat.le_trans an (by omega))
 clear g
 have g:=p;clear p
 have bf:=bl g
 refine oA rfl (oZ (tN (aj _ _ (sk fun bg ap=>(wt (oM rfl (oS rfl (Yk.notB (vr (.bool (false)) rfl) (oA rfl (oZ (tN (ap _ _ (Ap (Ao (fn:=Tryd.f64) _ rfl [.bool (true)] (.bool (true)) rfl ⟨rfl,trivial⟩ ?_))))))))))))))
 exact⟨by rw[IA hh (by omega) ha],hE⟩
open Go.RowKit
open Go.WideMaps (KeyLaw)
structure KL (P : Program) (k : TypeId) (OK : Value → Prop) : Prop where
  check:∀(w:World) (em:Bool) {v:Value},OK v→(Instr.checkKey em 10000 k v).run P w = .ok () w
  find:∀(w:World) {x:Value},OK x→∀es:List MapEntry,(∀e∈es,OK e.key) →
    ((Instr.findKey k x es).run P w = .ok none w∧∀e∈es,e.key≠x)∨∃j e,(Instr.findKey k x es).run P w = .ok (some (j,e.val)) w∧es[j]? =some e∧e.key=x
  stays:∀(w:World) {v:Value},OK v→(Instr.keyThatStays v v).run P w = .ok v w
theorem KL.ofKey{P:Program}{k:TypeId}{d:TypeDesc}(hd:P.underlying k=some d):KL P k (MapKept.IsKey d):=
  ⟨fun w em _ h=>MapKept.run_checkKey hd h em 9999,fun w x h es he=>by
    rcases MapKept.findNow_spec h es 0 he with ⟨h1,h2⟩ | ⟨j,e,h1,h2,h3⟩
    · exact .inl ⟨MapKept.run_findKey hd h1,h2⟩
    · rw[Nat.zero_add]at h1
      exact .inr ⟨j,e,MapKept.run_findKey hd h1,h2,h3⟩,fun w _ h=>MapKept.run_keyThatStays h⟩
section
variable {α β : Type} (ek : α → Value) (ev : β → Value) (D : α → Prop)
structure P6 (G : α → Option β) (es : List MapEntry) : Prop where
  keys:(es.map (·.key)).Nodup
  ent:∀e∈es,∃a y,D a∧e.key=ek a∧e.val=ev y∧G a=some y
  all:∀a y,G a=some y→D a∧∃e∈es,e.key=ek a
def MapF(w:World)(b:Nat)(G:α→Option β):Prop:=∃es clock,w.heap[b]? =some (.map es.toArray clock)∧P6 ek ev D G es
end
def updM{α β:Type}[DecidableEq α](G:α→Option β)(a:α)(y:Option β)(c:α):Option β:=if c=a then y else G c
section
variable {α β : Type} {ek : α → Value} {ev : β → Value} {D : α → Prop} {P : Program} {w w' : World} {b : Nat} {G : α → Option β}
theorem MapF.keep(h:MapF ek ev D w b G)(k:Ext w w'):MapF ek ev D w' b G:=by
  obtain⟨es,c,h2,h3⟩:=h
  exact⟨es,c,Ext.blk' k h2,h3⟩
theorem MapF.lt(h:MapF ek ev D w b G):b<w.heap.size:=by
  obtain⟨es,c,h2,h3⟩:=h
  exact(Array.getElem?_eq_some_iff.1 h2).1
theorem MapF.other{r:Option Nat}(h:MapF ek ev D w b G)(k:w.grownBy w' r)(hr:r≠some b):MapF ek ev D w' b G:=by
  have hl:=h.lt
  obtain⟨es,c,h2,h3⟩:=h
  exact⟨es,c,(k.block b hl (fun e=>hr e.symm)).trans h2,h3⟩
theorem MapF.made(ek:α→Value)(ev:β→Value)(D:α→Prop)(w:World):MapF ek ev D (w.alloc (.map #[] 0)) w.heap.size (fun _=>none):=
  ⟨[],0,heap_alloc_new w _,by simp,by simp,fun _ _ h=>by cases h⟩
section
variable {t K E : TypeId} {OK : Value → Prop} (L : KL P K OK) (hD : ∀ a, D a → OK (ek a)) (hi : ∀ a c, ek a = ek c → a = c) (ht : P.underlying t = some (.map K E))
include L hD hi ht
theorem MapF.look{z:Value}(hz:∀u:World,(zeroValue E).run P u = .ok z u)(h:MapF ek ev D w b G){a:α}(ha:D a)(ok:Bool):
    (Instr.lookup t (.map (some b)) (ek a) ok).run P w = .ok (if ok then .tuple #[(G a).elim z ev, .bool (G a).isSome]else(G a).elim z ev) w:=by
  obtain⟨es,c,hb,H⟩:=h
  have hkeys:∀e∈es,OK e.key:=fun e he=>by
    obtain⟨q,y,k1,k2,-⟩:=H.ent e he
    rw[k2]
    exact hD q k1
  rcases L.find w (hD a ha) es hkeys with ⟨f1,f2⟩ | ⟨j,f,f1,f2,f3⟩
  · have hG:G a=none:=by
      cases hG:G a with
      | none=>rfl
      | some y=>
        obtain⟨-,e,he,hek⟩:=H.all a y hG
        exact absurd hek (f2 e he)
    cases ok <;> simp[Instr.lookup,run_underlying ht,MapKept.run_getObj_map hb,L.check w _ (hD a ha),f1,hz,Result.andThen,hG]
  · obtain⟨q,y,k1,k2,k3,k4⟩:=H.ent f (List.mem_of_getElem? f2)
    have:q=a:=hi _ _ (k2.symm.trans f3)
    subst this
    cases ok <;> simp[Instr.lookup,run_underlying ht,MapKept.run_getObj_map hb,L.check w _ (hD q ha),f1,Result.andThen,k4,k3]
variable [DecidableEq α]
omit hi in
theorem MapF.put(h:MapF ek ev D w b G){a:α}(ha:D a)(y:β):
    ∃w',(Instr.mapUpdate t (.map (some b)) (ek a) (ev y)).run P w = .ok () w' ∧MapF ek ev D w' b (updM G a (some y))∧w.grownBy w' (some b)∧w'.heap.size=w.heap.size:=by
  obtain⟨es,c,hb,H⟩:=h
  have hkeys:∀e∈es,OK e.key:=fun e he=>by
    obtain⟨q,y,k1,k2,-⟩:=H.ent e he
    rw[k2]
    exact hD q k1
  have hblt:b<w.heap.size:=(Array.getElem?_eq_some_iff.1 hb).1
  have hgr:∀o,w.grownBy { w with heap:=w.heap.setIfInBounds b o } (some b):=fun o=>⟨rfl,rfl,rfl,by simp,fun i _ hi=>by simp only[Array.getElem?_setIfInBounds];rw[if_neg (fun e=>hi (by rw[e]))]⟩
  have hnew:∀o,({ w with heap:=w.heap.setIfInBounds b o } :World).heap[b]? =some o:=fun o=>by simp[hblt]
  rcases L.find w (hD a ha) es hkeys with ⟨f1,f2⟩ | ⟨j,g,f1,f2,f3⟩
  · have hnone:∀x,G a≠some x:=fun x hx=>by
      obtain⟨-,e,he,hek⟩:=H.all a x hx
      exact f2 e he hek
    refine⟨{ w with heap:=w.heap.setIfInBounds b (.map (es++ [({ key:=ek a,val:=ev y,born:=c } :MapEntry)]).toArray (c+1)) },?_,⟨_,_,hnew _,?_,?_,?_⟩,hgr _,by simp⟩
    · simp[Instr.mapUpdate,run_underlying ht,MapKept.run_getObj_map hb,L.check w false (hD a ha),f1,MapKept.run_setObj_map _ hb,Result.andThen]
    · simp only[List.map_append,List.map_cons,List.map_nil]
      refine List.nodup_append.2 ⟨H.keys,by simp,fun x hx z hz e=> ?_⟩
      obtain⟨f,he1,rfl⟩:=List.mem_map.1 hx
      simp at hz
      exact f2 f he1 (e.trans hz)
    · intro e he
      rcases List.mem_append.1 he with h1 | h1
      · obtain⟨q,z,k1,k2,k3,k4⟩:=H.ent e h1
        refine⟨q,z,k1,k2,k3,?_⟩
        unfold updM
        rw[if_neg (fun f=>f2 e h1 (by rw[k2,f]))]
        exact k4
      · rw[List.mem_singleton.1 h1]
        exact⟨a,y,ha,rfl,rfl,by unfold updM;rw[if_pos rfl]⟩
    · intro q z hq
      unfold updM at hq
      split at hq
      · rename_i f
        subst f
        exact⟨ha,_,List.mem_append_right _ (List.mem_singleton.2 rfl),rfl⟩
      · obtain⟨k1,e,he,hek⟩:=H.all q z hq
        exact⟨k1,e,List.mem_append_left _ he,hek⟩
  · obtain⟨q0,y0,k1,k2,k3,k4⟩:=H.ent g (List.mem_of_getElem? f2)
    have hjl:j<es.length:=(List.getElem?_eq_some_iff.1 f2).1
    have hkeq:(es.modify j fun e=> { e with key:=ek a,val:=ev y }).map (·.key)=es.map (·.key):=by
      rw[Go.ChangeMaps.modify_eq_set _ _ _ _ f2,List.map_set]
      exact Go.WideElems.set_self _ _ _ (by rw[List.getElem?_map,f2];simp[f3])
    have hj:es.toArray[j]? =some g:=by simpa using f2
    refine⟨{ w with heap:=w.heap.setIfInBounds b (.map (es.modify j fun e=> { e with key:=ek a,val:=ev y }).toArray c) },?_,⟨_,_,hnew _,?_,?_,?_⟩,hgr _,by simp⟩
    · simp[Instr.mapUpdate,run_underlying ht,MapKept.run_getObj_map hb,L.check w false (hD a ha),f1,f2,f3,L.stays w (hD a ha),MapKept.run_setObj_map _ hb,Result.andThen]
    · rw[hkeq]
      exact H.keys
    · intro e he
      rw[Go.ChangeMaps.modify_eq_set _ _ _ _ f2]at he
      obtain⟨i,hil,hie⟩:=List.mem_iff_getElem.1 he
      rw[List.getElem_set]at hie
      split at hie
      · subst hie
        exact⟨a,y,ha,rfl,rfl,by unfold updM;rw[if_pos rfl]⟩
      · rename_i hne
        have hil2:i<es.length:=by simpa using hil
        obtain⟨q,z,m1,m2,m3,m4⟩:=H.ent e (hie▸List.getElem_mem hil2)
        refine⟨q,z,m1,m2,m3,?_⟩
        unfold updM
        rw[if_neg ?_]
        · exact m4
        · intro f
          subst f
          apply hne
          have hn:=H.keys
          have k:(es.map (·.key))[j]'(by simpa using hjl)=(es.map (·.key))[i]'(by simpa using hil2):=by
            simp only[List.getElem_map]
            rw[hie,m2,←f3]
            exact congrArg MapEntry.key (List.getElem?_eq_some_iff.1 f2).2
          exact(List.getElem_inj hn).1 k
    · intro q z hq
      have hmem:∀x,x∈es.map (·.key)→∃e∈(es.modify j fun e=> { e with key:=ek a,val:=ev y }),e.key=x:=fun x hx=>by
        rw[←hkeq]at hx
        obtain⟨e,he,rfl⟩:=List.mem_map.1 hx
        exact⟨e,he,rfl⟩
      unfold updM at hq
      split at hq
      · rename_i f
        subst f
        exact⟨ha,hmem _ (List.mem_map.2 ⟨g,List.mem_of_getElem? f2,f3⟩)⟩
      · obtain⟨k1,e,he,hek⟩:=H.all q z hq
        exact⟨k1,hmem _ (List.mem_map.2 ⟨e,he,hek⟩)⟩
end
end
open Go.RowKit
theorem Dh{a b:Nat}(h:a≠b):some a≠some b:=fun e=>h (Option.some.inj e)
def ApartV(u v:Value):Prop:=∀k,u.ownBlock=some k→v.ownBlock≠some k
section
variable {N B : Nat} {r : Option Nat} {w w' w1 w0 : World} {e t : TypeId}
theorem I9{z n:Nat}{v:Value}{xs:List Value}(ho:w.ownsRow B e z v n xs)(k:w.grownBy w1 r)(ha:∀k,r=some k→v.ownBlock≠some k):w1.ownsRow B e z v n xs:=
  ho.kept k (by
    cases hv:v.ownBlock with
    | none=>exact .inl rfl
    | some g=>exact .inr (fun e=>ha g e.symm hv))
theorem Lt{u v:Value}{b:Nat}{e' :TypeId}{z n z' n' :Nat}{xs ys:List Value}(hu:w.ownsRow b e z u n xs)(hv:w'.ownsRow w.heap.size e' z' v n' ys):ApartV u v:=fun k h1 h2=>by
  have:=(hu.lt k h1).2
  have:=(hv.lt k h2).1
  omega
theorem PY{u v:Value}{b:Nat}{e' :TypeId}{z n z' n' :Nat}{xs ys:List Value}(hu:w.ownsRow b e z u n xs)(hv:w'.ownsRow w.heap.size e' z' v n' ys):ApartV v u:=fun k h1 h2=>Lt hu hv k h2 h1
theorem GS{u v v' :Value}{b:Nat}{z n:Nat}{xs:List Value}(gr:Grew w w' v v')(ha:ApartV v u)(hu:w.ownsRow b e z u n xs):ApartV v' u:=fun k h1 h2=>by
  rcases gr.fresh k h1 with h3 | h3
  · exact ha k h3 h2
  · have:=(hu.lt k h2).2
    omega
theorem NZ{v v' u:Value}{b:Nat}{z n:Nat}{xs:List Value}(hu:w.ownsRow b e z u n xs)(gr:Grew w w' v v')(ha:ApartV v u):w'.ownsRow b e z u n xs:=I9 hu gr.by_ ha
theorem KQ{α:Type}{k b:Nat}{enc:α→List Value}{v v' u:Value}{l:List α}(hu:OG b e k enc w u l)(gr:Grew w w' v v')(ha:ApartV v u):OG b e k enc w' u l:=⟨hu.1,NZ hu.2 gr ha⟩
end
open Go.RowKit
def Yp(P:Program)(K:Value→World→Prop)(J:List PanicEntry→World→Prop):Result Next→Prop
  | .ok (.value v) w=>K v w
  | .ok .skip w=>K undef w
  | .ok (.enter f args) w=>Calls P f args w fun e w' =>match e with | .returned v=>K v w' | .panicked ch=>J ch w' | .outgrown=>False
  | .halt (.panic v) w=>J [{ v,recovered:=false }] w
  | _=>False
section
variable {P : Program} {n : Nat} {Q : B2} {ρ : At} {w : World}
theorem Yp.ofK{K:Value→World→Prop}{J:List PanicEntry→World→Prop}{r:Result Next}(h:Yk P K r):Yp P K J r:=by
  unfold Yk at h
  split at h
  · exact h
  · exact h
  · exact h.mono fun e w' hx=>by
      obtain⟨v,rfl,hk⟩:=hx
      exact hk
  · exact h.elim
theorem oP{ops:Array Oper}{rest:List Oper}{dst:Option Tmp}{op:Op}{ty:TypeId}{pos:String}{af:Array Edge}(hd:(match dst with | some d=>Nat.blt d n | none=>true)=true) 
    (h:Yp P (fun v w' =>Cd P ops n Q rest (Bo ρ dst v) w') (fun ch w' =>Q (.panic ch) ρ w') ((execOp (Ai ρ) ⟨dst,op,ty,pos,af,none⟩).run P w)):Cd P ops n Q (⟨dst,op,ty,pos,af,none⟩ :: rest) ρ w:=by
  intro a ha
  have hdn:∀t,dst=some t→t<n:=fun t ht=>by subst ht;exact Nat.le_of_ble_eq_true hd
  refine wpList_plain rfl fun K hK=> ?_
  unfold Oper.wp Oper.upon
  rw[ha.eval]
  have hput:=fun v=>ha.put dst hdn v
  revert h
  generalize (execOp (Ai ρ) ⟨dst,op,ty,pos,af,none⟩).run P w=r
  intro h
  match r,h with
  | .ok (.value v) w',h=>exact hK _ _ (h _ (hput v))
  | .ok .skip w',h=>exact hK _ _ (h _ (hput undef))
  | .halt (.panic v) w',h=>exact⟨ρ,ha,h⟩
  | .ok (.enter f args) w',h=>
    refine Calls.mono h ?_
    intro e w'' hx
    match e,hx with
    | .returned v,hx=>exact hK _ _ (hx _ (hput v))
    | .panicked ch,hx=>exact⟨ρ,ha,hx⟩
theorem Yp.call{f:FuncId}{args:Array Operand}{at_:Array TypeId}{dst:Option Tmp}{ty:TypeId}{pos:String}{af:Array Edge}{gd:Option (Nat × Bool)}{K:Value→World→Prop}{J:List PanicEntry→World→Prop}(hp:AG P f)(vs:List Value)(hv:args.toList.map (Ai ρ)=vs) 
    (h:Calls P f vs.toArray w fun e w' =>match e with | .returned v=>K v w' | .panicked ch=>J ch w' | .outgrown=>False):Yp P K J ((execOp (Ai ρ) ⟨dst, .call ⟨.value (.func f),args,at_⟩,ty,pos,af,gd⟩).run P w):=by
  subst hv
  have hr:=F0 hp (Ai ρ) args.toList at_ dst ty pos af gd w rfl
  rw[Array.toArray_toList]at hr
  rw[hr]
  exact h
theorem Ar{f:FuncId}{args:Array Value}{K:Value→World→Prop}{J:List PanicEntry→World→Prop}{A:Value→World→Prop}{B:List PanicEntry→World→Prop}(h:Calls P f args w fun e w' =>(∃v,e = .returned v∧A v w')∨∃ch,e = .panicked ch∧B ch w') 
    (hA:∀v w',A v w' →K v w') (hB:∀ch w',B ch w' →J ch w'):Calls P f args w fun e w' =>match e with | .returned v=>K v w' | .panicked ch=>J ch w' | .outgrown=>False:=
  h.mono fun e w' hx=>by
    rcases hx with ⟨v,rfl,h1⟩ | ⟨ch,rfl,h1⟩
    · exact hA v w' h1
    · exact hB ch w' h1
theorem Yp.panic{dst:Option Tmp}{ty:TypeId}{pos:String}{af:Array Edge}{gd:Option (Nat × Bool)}{K:Value→World→Prop}{J:List PanicEntry→World→Prop}{x:Operand}{u:TypeId}{v:Value}(hx:Ai ρ x = .iface u v)(h:J [{ v:= .iface u v,recovered:=false }] w):
    Yp P K J ((execOp (Ai ρ) ⟨dst, .panic x,ty,pos,af,gd⟩).run P w):=by
  have hr:(execOp (Ai ρ) ⟨dst, .panic x,ty,pos,af,gd⟩).run P w = .halt (.panic (.iface u v)) w:=by
    simp[execOp,hx,Instr.panic,goPanic]
  rw[hr]
  exact h
section
variable {Q : B2} {K : At → World → Prop} {ch : List PanicEntry}
theorem Aq(h:Q (.panic ch) ρ w):EY K Q (.panic ch) ρ w:=h
theorem Cs{i:Nat}(h:Q (.panic ch) ρ w):Dv i Q (.panic ch) ρ w:=h
end
def GE(P:Program)(fn:Func)(R:Ending→World→Prop):B2
  | .normal,ρ,w | .ret,ρ,w=>∀tmps:Array Value,(∀t,tmps.getD t undef=ρ t)→∃v,(results fn tmps).run P w = .ok v w∧R (.returned v) w
  | .panic ch,_,w=>R (.panicked ch) w
  | _,_,_=>False
theorem Bt{f:FuncId}{fn:Func}{c:Code}{args:List Value}{R:Ending→World→Prop}(hf:P.funcs[f]? =some fn)(hb:fn.body=some c)(m:Nat)(hm:fn.ntmps=m)(hn:args.length≤m) 
    (h:∀ρ,Jj args ρ→B1 P m c (GE P fn R) ρ w):Calls P f args.toArray w R:=by
  subst hm
  refine calls_of_wp hf hb ?_
  have hget:∀t,(args.toArray++Array.replicate (fn.ntmps-args.toArray.size) undef).getD t undef=args.getD t undef:=fun t=>by
    simp only[Array.getD_eq_getD_getElem?,List.getD_eq_getElem?_getD,Array.getElem?_append,List.size_toArray,List.getElem?_toArray]
    by_cases ht:t<args.length
    · rw[if_pos ht]
    · rw[if_neg ht,List.getElem?_eq_none (by omega),Array.getElem?_replicate]
      split <;> rfl
  refine wp_mono (h (fun t=>args.getD t undef) ⟨fun _=>rfl⟩ _ ⟨?_,rfl,hget⟩) ?_
  · simp
    omega
  · rintro e a' w' ⟨ρ',hf',hQ⟩
    have fin:(∀tmps:Array Value,(∀t,tmps.getD t undef=ρ' t)→∃v,(results fn tmps).run P w' = .ok v w' ∧R (.returned v) w')→a'.defers= []∧∃v,(results fn a'.tmps).run P w' = .ok v w' ∧R (.returned v) w' :=
      fun h=>⟨hf'.defers,h a'.tmps hf'.get⟩
    cases e with
    | normal=>exact fin hQ
    | ret=>exact fin hQ
    | panic ch=>exact⟨hf'.defers,hQ⟩
    | exit _=>exact hQ.elim
    | goto _=>exact hQ.elim
    | outgrown=>exact hQ.elim
theorem Br{fn:Func}{R:Ending→World→Prop}(rs:List ResultVar)(hrs:fn.results=rs.toArray)(vs:List Value)(v:Value)(hv:EI vs=v)(h:D1 P ρ w rs vs)(hR:R (.returned v) w):GE P fn R .ret ρ w:=
  fun _ ht=>⟨_,DF hrs ht h,by rw[hv];exact hR⟩
theorem CB{fn:Func}{R:Ending→World→Prop}(rs:List ResultVar)(hrs:fn.results=rs.toArray)(vs:List Value)(v:Value)(hv:EI vs=v)(h:D1 P ρ w rs vs)(hR:R (.returned v) w):GE P fn R .normal ρ w:=
  fun _ ht=>⟨_,DF hrs ht h,by rw[hv];exact hR⟩
theorem postP_panic{fn:Func}{R:Ending→World→Prop}{ch:List PanicEntry}(h:R (.panicked ch) w):GE P fn R (.panic ch) ρ w:=h
end
open Go.RowKit
section
variable {P : Program} {K : Value → World → Prop} {ρ : At} {w : World} {d : Option Tmp} {ty : TypeId} {pos : String} {af : Array Edge} {gd : Option (Nat × Bool)}
variable {α β : Type} {ek : α → Value} {ev : β → Value} {D : α → Prop} {b : Nat} {G : α → Option β}
variable {t Kt E : TypeId} {OK : Value → Prop}
theorem Yk.lookM(L:KL P Kt OK)(hD:∀a,D a→OK (ek a))(hi:∀a c,ek a=ek c→a=c)(ht:P.underlying t=some (.map Kt E)){z:Value}(hz:∀u:World,(zeroValue E).run P u = .ok z u){x y:Operand}{a:α} 
    (hm:Ai ρ x = .map (some b)) (hy:Ai ρ y=ek a) (h:MapF ek ev D w b G) (ha:D a) (hk:K ((G a).elim z ev) w):
    Yk P K ((execOp (Ai ρ) ⟨d, .lookup t x y false,ty,pos,af,gd⟩).run P w):=by
  have hrun:=h.look L hD hi ht hz ha false
  refine Yk.value (v:=(G a).elim z ev) (w' :=w) ?_ hk
  unfold execOp
  simp only[hm,hy,Sem.run_bind,hrun,Result.andThen_ok,Sem.run_pure]
  rfl
theorem Yk.lookOk(L:KL P Kt OK)(hD:∀a,D a→OK (ek a))(hi:∀a c,ek a=ek c→a=c)(ht:P.underlying t=some (.map Kt E)){z:Value}(hz:∀u:World,(zeroValue E).run P u = .ok z u){x y:Operand}{a:α} 
    (hm:Ai ρ x = .map (some b)) (hy:Ai ρ y=ek a) (h:MapF ek ev D w b G) (ha:D a) (hk:K (.tuple #[(G a).elim z ev, .bool (G a).isSome]) w):
    Yk P K ((execOp (Ai ρ) ⟨d, .lookup t x y true,ty,pos,af,gd⟩).run P w):=by
  have hrun:=h.look L hD hi ht hz ha true
  refine Yk.value (v:= .tuple #[(G a).elim z ev, .bool (G a).isSome]) (w' :=w) ?_ hk
  unfold execOp
  simp only[hm,hy,Sem.run_bind,hrun,Result.andThen_ok,Sem.run_pure]
  rfl
theorem Yk.mkMap(ek:α→Value)(ev:β→Value)(D:α→Prop)(hk:∀g w',w.heap.size=g→MapF ek ev D w' g (fun _=>none)→Ext w w' →w'.heap.size=g+1→K (.map (some g)) w'):
    Yk P K ((execOp (Ai ρ) ⟨d, .makeMap t none,ty,pos,af,gd⟩).run P w):=by
  refine Yk.value (v:= .map (some w.heap.size)) (w' :=w.alloc (.map #[] 0)) ?_ (hk _ _ rfl (MapF.made ek ev D w) ((Below.refl _ _).alloc (Nat.le_refl _) _) (by simp))
  unfold execOp
  simp[Instr.makeMap,newObj,Result.andThen]
  rfl
theorem Yk.lookOkS(L:KL P Kt OK)(hD:∀a,D a→OK (ek a))(hi:∀a c,ek a=ek c→a=c)(ht:P.underlying t=some (.map Kt E)){z:Value}(hz:∀u:World,(zeroValue E).run P u = .ok z u){x y:Operand}{a:α}{c:β} 
    (hm:Ai ρ x = .map (some b)) (hy:Ai ρ y=ek a) (h:MapF ek ev D w b G) (ha:D a) (hG:G a=some c) (hk:K (.tuple #[ev c, .bool true]) w):Yk P K ((execOp (Ai ρ) ⟨d, .lookup t x y true,ty,pos,af,gd⟩).run P w):=
  Yk.lookOk L hD hi ht hz hm hy h ha (by rw[hG];exact hk)
theorem Yk.lookOkN(L:KL P Kt OK)(hD:∀a,D a→OK (ek a))(hi:∀a c,ek a=ek c→a=c)(ht:P.underlying t=some (.map Kt E)){z:Value}(hz:∀u:World,(zeroValue E).run P u = .ok z u){x y:Operand}{a:α} 
    (hm:Ai ρ x = .map (some b)) (hy:Ai ρ y=ek a) (h:MapF ek ev D w b G) (ha:D a) (hG:G a=none) (hk:K (.tuple #[z, .bool false]) w):Yk P K ((execOp (Ai ρ) ⟨d, .lookup t x y true,ty,pos,af,gd⟩).run P w):=
  Yk.lookOk L hD hi ht hz hm hy h ha (by rw[hG];exact hk)
theorem Yk.lookMS(L:KL P Kt OK)(hD:∀a,D a→OK (ek a))(hi:∀a c,ek a=ek c→a=c)(ht:P.underlying t=some (.map Kt E)){z:Value}(hz:∀u:World,(zeroValue E).run P u = .ok z u){x y:Operand}{a:α}{c:β} 
    (hm:Ai ρ x = .map (some b)) (hy:Ai ρ y=ek a) (h:MapF ek ev D w b G) (ha:D a) (hG:G a=some c) (hk:K (ev c) w):Yk P K ((execOp (Ai ρ) ⟨d, .lookup t x y false,ty,pos,af,gd⟩).run P w):=
  Yk.lookM L hD hi ht hz hm hy h ha (by rw[hG];exact hk)
theorem Yk.build{parts:Array (Nat × Operand)}{vs:Array (Nat × Value)}{v:Value}(hv:(parts.map fun(i,x)=>(i,Ai ρ x))=vs)(hr:∀w:World,(Instr.build t vs).run P w = .ok v w)(hk:K v w):
    Yk P K ((execOp (Ai ρ) ⟨d, .build t parts,ty,pos,af,gd⟩).run P w):=by
  refine Yk.value (v:=v) (w' :=w) ?_ hk
  unfold execOp
  simp only[hv,hr,Sem.run_bind,Result.andThen_ok,Sem.run_pure]
theorem Yk.build1{i0:Nat}{x0:Operand}{a v:Value}(h0:Ai ρ x0=a)(hr:∀w:World,(Instr.build t #[(i0,a)]).run P w = .ok v w)(hk:K v w):Yk P K ((execOp (Ai ρ) ⟨d, .build t #[(i0,x0)],ty,pos,af,gd⟩).run P w):=
  Yk.build (by simp[h0]) hr hk
theorem Yk.build2{i0 i1:Nat}{x0 x1:Operand}{a b v:Value}(h0:Ai ρ x0=a)(h1:Ai ρ x1=b)(hr:∀w:World,(Instr.build t #[(i0,a),(i1,b)]).run P w = .ok v w)(hk:K v w):Yk P K ((execOp (Ai ρ) ⟨d, .build t #[(i0,x0),(i1,x1)],ty,pos,af,gd⟩).run P w):=
  Yk.build (by simp[h0,h1]) hr hk
theorem RG.slice{k:Nat}{enc:α→List Value}{v:Value}{l:List α}(h:RG k enc w v l):∃ao n c,v = .slice ao n c:=by
  obtain⟨ao,c,rfl⟩:=h.len
  exact⟨ao,_,c,rfl⟩
theorem Yk.mkIface{fs}(hu:P.underlying t=some (.struct fs)){x:Operand}{v:Value}(hx:Ai ρ x=v)(hk:K (.iface t v) w):Yk P K ((execOp (Ai ρ) ⟨d, .makeInterface t x,ty,pos,af,gd⟩).run P w):=by
  refine Yk.value (v:= .iface t v) (w' :=w) ?_ hk
  unfold execOp
  simp[Instr.makeInterface,hx,run_underlying hu,Result.andThen]
theorem Yk.lit1G{k:Nat}{enc:α→List Value}{e:TypeId}{x:Operand}{a:α}(hx:Ai ρ x = .agg (enc a).toArray)(hl:(enc a).length=k) 
    (hr:∀(cs:Array Value),cs.size=k→∀w:World,(Instr.buildSlice t 1 #[(0, .agg cs)]).run P w = .ok (.slice (some ⟨w.heap.size,0,none⟩) 1 1) (w.alloc (.cells cs e)))
    (hk:∀v w',RG k enc w' v [a]→Ext w w' →K v w'):Yk P K ((execOp (Ai ρ) ⟨d, .buildSlice t 1 #[(0,x)],ty,pos,af,gd⟩).run P w):=by
  have hE:Ext w (w.alloc (.cells (enc a).toArray e)):=(Below.refl _ _).alloc (Nat.le_refl _) _
  refine Yk.value (v:= .slice (some ⟨w.heap.size,0,none⟩) 1 1) (w' :=w.alloc (.cells (enc a).toArray e)) ?_ (hk _ _ (RG.single hl (heap_alloc_new w _)) hE)
  unfold execOp
  simp only[List.map_toArray,List.map_cons,List.map_nil,hx,Sem.run_bind,hr _ (show(enc a).toArray.size=k by rw[List.size_toArray];exact hl),Result.andThen_ok,Sem.run_pure]
theorem RG.elem{k:Nat}{enc:α→List Value}{v:Value}{l:List α}(h:RG k enc w v l)(dd:α){i:Nat}(hi:i<l.length):(enc (l.getD i dd)).length=k:=by
  refine h.1 _ ?_
  rw[List.getD_eq_getElem?_getD,List.getElem?_eq_getElem hi]
  exact List.getElem_mem hi
theorem Yp.callA1{f:FuncId}(hp:AG P f){x0:Operand}{a:Value}{at_:Array TypeId}{J:List PanicEntry→World→Prop}(h0:Ai ρ x0=a) 
    (h:Calls P f #[a] w fun e w' =>match e with | .returned v=>K v w' | .panicked ch=>J ch w' | .outgrown=>False):Yp P K J ((execOp (Ai ρ) ⟨d, .call ⟨.value (.func f),#[x0],at_⟩,ty,pos,af,gd⟩).run P w):=
  Yp.call hp [a] (by simp[h0]) h
theorem Yp.callA2{f:FuncId}(hp:AG P f){x0 x1:Operand}{a b:Value}{at_:Array TypeId}{J:List PanicEntry→World→Prop}(h0:Ai ρ x0=a)(h1:Ai ρ x1=b) 
    (h:Calls P f #[a,b] w fun e w' =>match e with | .returned v=>K v w' | .panicked ch=>J ch w' | .outgrown=>False):Yp P K J ((execOp (Ai ρ) ⟨d, .call ⟨.value (.func f),#[x0,x1],at_⟩,ty,pos,af,gd⟩).run P w):=
  Yp.call hp [a,b] (by simp[h0,h1]) h
theorem Yp.callA3{f:FuncId}(hp:AG P f){x0 x1 x2:Operand}{a b c:Value}{at_:Array TypeId}{J:List PanicEntry→World→Prop}(h0:Ai ρ x0=a)(h1:Ai ρ x1=b)(h2:Ai ρ x2=c) 
    (h:Calls P f #[a,b,c] w fun e w' =>match e with | .returned v=>K v w' | .panicked ch=>J ch w' | .outgrown=>False):Yp P K J ((execOp (Ai ρ) ⟨d, .call ⟨.value (.func f),#[x0,x1,x2],at_⟩,ty,pos,af,gd⟩).run P w):=
  Yp.call hp [a,b,c] (by simp[h0,h1,h2]) h
end
open Go.RowKit
theorem FT{P:Program}{w:World}:∀(l:List UInt8) (a:Addr) (acc:ByteArray),(∀j u,(Lib.byteCells l)[j]? =some u→w.cell? (a.add j)=some u)→(Extern.Bytes.loadBytes a l.length acc).run P w = .ok ⟨acc.data++l.toArray⟩ w
  | [],a,acc,_=>by simp[Extern.Bytes.loadBytes,Sem.run_pure]
  | b :: r,a,acc,h=>by
    have h0:=h 0 (B8 b) (by simp[Lib.byteCells])
    have ha:a.add 0=a:=by unfold Addr.add;split <;> simp_all
    rw[ha]at h0
    have ih:=FT (P:=P) (w:=w) r (a.add 1) (acc.push b) (fun j u hj=>by
      rw[EH]
      refine h (1+j) u ?_
      rw[Nat.add_comm]
      simpa [Lib.byteCells] using hj)
    have hb:(((b.toNat:Nat):Int)).toNat.toUInt8=b:=by simp
    have hl:(load a).run P w = .ok (B8 b) w:=by simp[load,Sem.run,h0]
    simp only[List.length_cons,Extern.Bytes.loadBytes,Sem.run_bind,hl,Result.andThen_ok]
    rw[hb,ih]
    simp
theorem GT{P:Program}{w:World}{v:Value}{l:List UInt8}(h:RB w v l):(Extern.Bytes.bytesOf v).run P w = .ok ⟨l.toArray⟩ w:=by
  obtain⟨h1,ao,cap,rfl,h2,h3,h4,h5⟩:=h
  cases ao with
  | none=>
    have:l= []:=List.eq_nil_of_length_eq_zero (h4 rfl).1
    subst this
    rfl
  | some a=>
    have:=FT (P:=P) (w:=w) l a .empty (h5 a rfl)
    simpa [Extern.Bytes.bytesOf] using this
theorem Ja{P:Program}{w:World}{x y:Value}{l m:List UInt8}(hx:RB w x l)(hy:RB w y m):(Extern.BytealgCompare.compare #[x,y]).run P w = .ok (.int .i64 (Lib.compareBytes l m)) w:=by
  change Sem.run P (do pure (goInt (Extern.BytealgCompare.cmp (←Extern.Bytes.bytesOf x) (←Extern.Bytes.bytesOf y)))) w=_
  simp only[Sem.run_bind,GT hx,GT hy,Sem.run_pure,Result.andThen_ok]
  rw[Lib.cmp_eq]
  rfl
section
variable {P : Program} {K : Value → World → Prop} {ρ : At} {w : World} {d : Option Tmp} {ty : TypeId} {pos : String} {af : Array Edge} {gd : Option (Nat × Bool)}
theorem Yk.extern2{f:FuncId}{at_:Array TypeId}{x y:Operand}{a b v:Value}(hx:Ai ρ x=a)(hy:Ai ρ y=b)(hr:(callFunc f #[a,b]).run P w = .ok (.value v) w)(hk:K v w):Yk P K ((execOp (Ai ρ) ⟨d, .call ⟨.value (.func f),#[x,y],at_⟩,ty,pos,af,gd⟩).run P w):=by
  refine Yk.value (v:=v) (w' :=w) ?_ hk
  have hf:Ai ρ (.func f) = .func (.func f) #[] #[]:=rfl
  unfold execOp
  simp[resolve,hf,Deferred.ofValue,invoke,hx,hy,hr]
end
section
variable {P : Program} {w : World}
theorem RB.ofBlk{g:Nat}{l:List UInt8}{t:TypeId}{fr:Nat × Nat}(h:w.heap[g]? =some (.cells (Lib.byteCells l).toArray t fr))(hl:l.length≤9223372036854775807):RB w (.slice (some ⟨g,0,none⟩) l.length l.length) l:=
  ⟨by simp[Lib.byteCells],_,_,rfl,Nat.le_refl _,by unfold maxLen;omega,(fun h=>by cases h),fun a ha j u hu=>by
    cases ha
    rw[Addr.add_lit,Nat.zero_add]
    exact Ac h hu⟩
theorem RB.ofBlkN{g n:Nat}{l:List UInt8}{t:TypeId}{fr:Nat × Nat}(h:w.heap[g]? =some (.cells (Lib.byteCells l).toArray t fr))(hn:l.length=n)(hl:n≤9223372036854775807):RB w (.slice (some ⟨g,0,none⟩) n n) l:=by
  subst hn
  exact RB.ofBlk h hl
theorem Yk.sliceArr{K:Value→World→Prop}{ρ:Tmp→Value}{t e:TypeId}{n:Nat}(ht:P.underlying t=some (.array n e))(he:∀w' :World,(sizeOf e).run P w' = .ok 1 w'){x:Operand}{d:Option Tmp}{ty:TypeId}{pos:String}{af:Array Edge}{gd:Option (Nat × Bool)}{w:World}{b o:Nat} 
    (hx:Ai ρ x = .pointer (some ⟨b,o,none⟩)) (hk:K (.slice (some ⟨b,o,none⟩) n n) w):Yk P K ((execOp (Ai ρ) ⟨d, .slice t x none none none,ty,pos,af,gd⟩).run P w):=by
  refine Yk.value (v:= .slice (some ⟨b,o,none⟩) n n) (w' :=w) ?_ hk
  have hE:P.elem t=e:=by simp[Program.elem,ht]
  have hN:P.arrayLen t=n:=by simp[Program.arrayLen,ht]
  have hr:=run_sliceAt_array_all (P:=P) (w:=w) (t:=t) (a:=⟨b,o,none⟩) (by rw[hE,hN];exact ht)
  rw[hE,he,hN]at hr
  unfold execOp
  simp only[hx,Option.map_none,Sem.run_bind,hr,Result.andThen_ok,Sem.run_pure]
  simp[slicedAt,Addr.add_lit]
end
def zeroB(x:BZ):Bool:=decide (x.1=List.replicate 32 0)
def E1(l:List Bs)(i:Nat):Prop:=∀j,0<j→j<i→Lib.compareBytes (l.getD (j-1) []) (l.getD j [])<0
open Classical in
noncomputable def G9(l:List Bs):Bool:=decide (E1 l l.length)
theorem Lu(l:List Bs):E1 l 0:=fun j _ h=>by omega
theorem MB{l:List Bs}{i:Nat}(_h:E1 l i)(h0:i=0):E1 l (i+1):=fun j h1 h2=>by omega
theorem Lv{l:List Bs}{i:Nat}(h:E1 l i)(h1:Lib.compareBytes (l.getD (i-1) []) (l.getD i [])<0):E1 l (i+1):=fun j h2 h3=>by
  by_cases e:j<i
  · exact h j h2 e
  · obtain rfl:j=i:=by omega
    exact h1
theorem N1{l:List Bs}{i:Nat}(hi:l.length≤i)(h:E1 l i):G9 l=true:=by
  classical
  exact decide_eq_true (fun j h1 h2=>h j h1 (by omega))
theorem O9{l:List Bs}{i:Nat}(hi:i<l.length)(h0:0<i)(h:¬Lib.compareBytes (l.getD (i-1) []) (l.getD i [])<0):G9 l=false:=by
  classical
  exact decide_eq_false (fun k=>h (k i h0 hi))
theorem MC{α:Type}{l:List α}{i:Nat}(d:α)(h:i<l.length):l.drop i=l.getD i d :: l.drop (i+1):=by
  rw[List.drop_eq_getElem_cons h,List.getD_eq_getElem?_getD,List.getElem?_eq_getElem h];rfl
theorem FF{α:Type}{l:List α}{i:Nat}(d:α)(h:i<l.length):l.getD i d∈l:=by
  rw[List.getD_eq_getElem?_getD,List.getElem?_eq_getElem h];exact List.getElem_mem h
theorem Bp{l:List UInt8}(h:(Lib.byteCells l).length=32):l.length=32:=by rwa [Lib.byteCells_length]at h
theorem IC{α:Type}{l m:List α}{i:Nat}{d:α}(h:i<l.length)(hm:i<m.length)(h1:l.take i=m.take i)(h2:l.getD i d=m.getD i d):l.take (i+1)=m.take (i+1):=by
  rw[List.take_succ_eq_append_getElem h,List.take_succ_eq_append_getElem hm,h1]
  rw[List.getD_eq_getElem?_getD,List.getElem?_eq_getElem h,List.getD_eq_getElem?_getD,List.getElem?_eq_getElem hm]at h2
  rw[show l[i]=m[i]from h2]
theorem KR{α:Type}{l m:List α}{i:Nat}{d:α}(h2:l.getD i d≠m.getD i d):l≠m:=fun e=>h2 (by rw[e])
open Go.RowKit
set_option maxRecDepth 100000
theorem Qd{vx vy:Value}{x y:Bs}{w:World}(hx:RB w vx x)(hy:RB w vy y):(callFunc 168 #[vx,vy]).run Tryd.prog w = .ok (.value (.int .i64 (Lib.compareBytes x y))) w:=by
 rw[run_callFunc_extern (e:=Extern.BytealgCompare.compare) Tryd.func168 (by kernel_rfl) (by kernel_rfl) (by kernel_rfl) (by kernel_rfl),Ja hx hy]
 rfl
theorem Ha:Tryd.prog.eqGuardType Tryd.prog.depth 25=false:=by kernel_rfl
theorem MD:AG Tryd.prog 154:=fun _ _=>by kernel_rfl
theorem BT:Tryd.prog.underlying 23=some (.slice 25):=by kernel_rfl
theorem CV:∀w' :World,(sizeOf 25).run Tryd.prog w' = .ok 32 w' :=fun _=>by kernel_rfl
theorem ID:AG Tryd.prog 142:=fun _ _=>by kernel_rfl
theorem Dc(w:World)(x:BZ):
  Calls Tryd.prog 60 #[AB x.1] w fun e w' =>e = .returned (.bool (zeroB x))∧Ext w w' :=by
 refine calls_of_wpF (args:= [AB x.1]) Tryd.func60 rfl 6 rfl (Nat.le_of_ble_eq_true rfl) ?_
 intro c hb
 have f:c 0=(AB x.1:Value):=hb.get 0
 clear hb
 have hE:=Ext.refl w
 refine sk fun l g=>(wt (oS rfl (Yk.box (cs:=(Lib.byteCells x.1:List Value).toArray) f fun a h m b i n=> ?_)))
 have hE:=hE.trans i
 have j:=b;clear b
 have o:a<h.heap.size:=by omega
 refine oA rfl (oZ (tN (g _ _ (sk fun p k=>(wt (oS rfl (Yk.loadAll (vr (PQ a 0) rfl) j OA rfl (by exact AH x.2) (oS rfl (Yk.run (v:=AB (List.replicate 32 0)) (by kernel_rfl) (oS rfl (Yk.eqArr (l1:=x.1) (l2:=(List.replicate 32 0)) OA u5 Lm Ha (vr (AB x.1) rfl) (vr (AB (List.replicate 32 0)) rfl) (by exact x.2) (by simp) (oA rfl (oZ (tN (k _ _ (Ap (Ao (fn:=Tryd.f60) _ rfl [.bool (decide (x.1=(List.replicate 32 0)))] (.bool (decide (x.1=(List.replicate 32 0)))) rfl ⟨rfl,trivial⟩ ?_)))))))))))))))))
 exact⟨rfl,hE⟩

theorem Hb(w:World)(vx vy:Value)(x y:Bs)(hx:RB w vx x)(hy:RB w vy y):
  Calls Tryd.prog 154 #[vx,vy] w fun e w' =>e = .returned (.int .i64 (Lib.compareBytes x y))∧Ext w w' :=by
 refine calls_of_wpF (args:= [vx,vy]) Tryd.func154 rfl 8 rfl (Nat.le_of_ble_eq_true rfl) ?_
 intro a hb
 have b:a 0=(vx:Value):=hb.get 0
 have c:a 1=(vy:Value):=hb.get 1
 clear hb
 have hE:=Ext.refl w
 refine sk fun h f=>(wt (oA rfl (oZ (tN (f _ _ (sk fun i g=>(wt (oM rfl (oM rfl (oS rfl (Yk.extern2 b c (Qd (hx.keep hE) (hy.keep hE)) (oA rfl (oZ (tN (g _ _ (Ap (Ao (fn:=Tryd.f154) _ rfl [.int .i64 (Lib.compareBytes x y:Int)] (.int .i64 (Lib.compareBytes x y:Int)) rfl ⟨rfl,trivial⟩ ?_)))))))))))))))))
 exact⟨rfl,hE⟩

theorem GU(w:World)(x y:Bs)(hxl:x.length=32)(hyl:y.length=32):
  Calls Tryd.prog 142 #[AB x,AB y] w fun e w' =>e = .returned (.int .i64 (Lib.compareBytes x y))∧Ext w w' :=by
 refine calls_of_wpF (args:= [AB x,AB y]) Tryd.func142 rfl 8 rfl (Nat.le_of_ble_eq_true rfl) ?_
 intro m hb
 have i:m 0=(AB x:Value):=hb.get 0
 have j:m 1=(AB y:Value):=hb.get 1
 clear hb
 have hE:=Ext.refl w
 refine sk fun K1 q=>(wt (oS rfl (Yk.box (cs:=(Lib.byteCells x:List Value).toArray) i fun b n ah o r ai=> ?_)))
 have hE:=hE.trans r
 have a:=o;clear o
 have aj:b<n.heap.size:=by omega
 refine oS rfl (Yk.box (cs:=(Lib.byteCells y:List Value).toArray) j fun c s t p k ak=> ?_)
 have f:=Ext.refl n
 have al:=hE
 have am:=hE.size
 have an:=Bn (bl a) t
 have hE:=hE.trans k
 have a:=eb k a
 have f:=f.trans k
 have l:=p;clear p
 have ao:c<s.heap.size:=by omega
 refine oA rfl (oZ (tN (q _ _ (sk fun ap u=> ?_))))
 refine Bi [Is (.slice (some ⟨b,0,none⟩) 32 32),Is (.slice (some ⟨c,0,none⟩) 32 32),Is (.int .i64 (Lib.compareBytes x y:Int)),Is (.int .i64 (Lib.compareBytes x y:Int))] (by kernel_rfl) [5,6,7,4] (by kernel_rfl) (by kernel_rfl) (EG trivial) ?v ?hQ1001
 case v=>
  refine⟨?_,?_,?_,?_,trivial⟩
  ·refine Aa rfl fun σ w1 hC h=> ?_
   have z:σ 2=PQ b 0:=(Ad (h 2 (by decide))).trans rfl
   exact Yk.sliceArr OA Lm z ⟨Ext.refl _,rfl⟩
  ·refine Aa rfl fun σ w1 hC h=> ?_
   have e3:σ 3=PQ c 0:=(Ad (h 3 (by decide))).trans rfl
   exact Yk.sliceArr OA Lm e3 ⟨Ext.refl _,rfl⟩
  ·refine Aa rfl fun σ w1 hC h=> ?_
   have e5:=Ad (h 5 (by decide))
   have e6:=Ad (h 6 (by decide))
   refine Yk.callA2 MD e5 e6 ((Hb _ _ _ x y (RB.ofBlkN (eb hC a) hxl (by decide)) (RB.ofBlkN (eb hC l) hyl (by decide))).mono ?_)
   rintro e w2 ⟨rfl,hx⟩
   exact⟨_,rfl,hx,rfl⟩
  ·refine Aa rfl fun σ w1 hC h=> ?_
   have e7:=Ad (h 7 (by decide))
   exact Yk.assign e7 ⟨Ext.refl _,rfl⟩
 intro ae ar g he hf
 obtain⟨-,-,-,k4,-⟩:=hf
 obtain⟨i,j,T2,T3,-⟩:=he.hold [(0,_),(1,_),(2,PQ b 0),(3,PQ c 0)] ⟨i,j,rfl,rfl,trivial⟩ rfl
 clear he
 have hE:=hE.trans g
 have a:=eb g a
 have f:=f.trans g
 have l:=eb g l
 have T4:ae 4 = .int .i64 (Lib.compareBytes x y:Int):=k4
 clear k4
 refine tN (u _ _ (Ap (Ao (fn:=Tryd.f142) _ rfl [.int .i64 (Lib.compareBytes x y:Int)] (.int .i64 (Lib.compareBytes x y:Int)) rfl ⟨T4,trivial⟩ ?_)))
 exact⟨rfl,hE⟩

theorem ME(w:World)(v:Value)(l:List Bs)(hr:RG 32 Lib.byteCells w v l)(hll:l.length<9223372036854775807):
  Calls Tryd.prog 104 #[v] w fun e w' =>e = .returned (.bool (G9 l))∧Ext w w' :=by
 refine calls_of_wpF (args:= [v]) Tryd.func104 rfl 25 rfl (Nat.le_of_ble_eq_true rfl) ?_
 intro al hb
 have f:al 0=(v:Value):=hb.get 0
 clear hb
 have hE:=Ext.refl w
 refine sk fun K1 am=>(wt (oA rfl (oZ (tN (am _ _ (sk fun K2 an=>(sk fun K3 ao=>(wt (oM rfl (oS rfl (Yk.lenRG BT (RG.of hr f) (oM rfl (Be [(0,v),(2, .bool (false)),(5,NI l.length),(6,NI 0)] ⟨f,rfl,rfl,rfl,trivial⟩ fun bk ⟨f,T2,g,c,_⟩=>(tN (ao _ _ (Ax (Bc (fun(ρ:At) (wz:World)=>∃i:Nat,ρ 0=(v:Value)∧ρ 5=(NI l.length:Value)∧ρ 6=(NI i:Value)∧RG 32 Lib.byteCells wz v l∧Ext w wz∧(i≤l.length)∧(E1 l i)∧True) (fun ρ _=>l.length-(intOf (ρ 6)).toNat) ⟨0,f,g,c,hr,hE,Nat.zero_le _,Lu _,trivial⟩ ?_)))))))))))))))))
 clear hr hE
 rintro ah w6 ⟨i,f,g,c,hr,hE,hi,hn,-⟩
 have q6:=c
 by_cases hlt:i<l.length
 ·have hel:(l.getD i []).length=32:=Bp (RG.elem hr [] hlt)
  by_cases q0:0<i
  ·have hem:(l.getD (i-1) []).length=32:=Bp (RG.elem hr [] (by omega))
   by_cases q1:0≤Lib.compareBytes (l.getD (i-1) []) (l.getD i [])
   ·refine sk fun K7 ap=>(wt (oS rfl (Yk.eqI (a:=(i:Nat)) (b:=(l.length:Nat)) c g (AZ _ _ _ _) (oZ (tN (ap _ _ (sk fun K8 aq=>(AE (vr (.bool (true)) (congrArg Value.bool (decide_eq_true (hlt)))) (Ak (tN (aq _ _ (sk fun K9 br=>(Ax (sk fun bs ar=>(wt (oM rfl (oA rfl (oZ ?_))))))))))))))))))
    refine tN (ar _ _ (sk fun bt au=> ?_))
    refine Bi [Is (NI i),Is (.bool (true)),Is (.bool (true)),Is (v),Is (NI i),Is (NI ((i)-(1))),fun x w' =>PR (Lib.byteCells (l.getD ((i)-(1)) ([]:List UInt8))) x w',Is (AB (l.getD ((i)-(1)) ([]:List UInt8))),Is (v),Is (NI i),fun x w' =>PR (Lib.byteCells (l.getD (i) ([]:List UInt8))) x w',Is (AB (l.getD (i) ([]:List UInt8))),Is (.int .i64 (Lib.compareBytes (l.getD ((i)-(1)) ([]:List UInt8)) (l.getD (i) ([]:List UInt8)):Int)),Is (.bool (true)),Is (.bool (true))] (by kernel_rfl) [9,10,11,12,13,14,15,16,17,18,19,20,21,22,23] (by kernel_rfl) (by kernel_rfl) (KO ⟨(fun _ _ _ h k=>PR.keep h k),(Iu ⟨(fun _ _ _ h k=>PR.keep h k),(EG trivial)⟩)⟩) ?av ?hQ1004
    case av=>
     refine⟨?_,?_,?_,?_,?_,?_,?_,?_,?_,?_,?_,?_,?_,?_,?_,trivial⟩
     ·refine Aa rfl fun σ w1 hC h=> ?_
      have j:=(Ad (h 3 (by decide))).trans c
      exact Yk.move j ⟨Ext.refl _,rfl⟩
     ·refine Aa rfl fun σ w1 hC h=> ?_
      have q:=Ad (h 9 (by decide))
      exact Yk.eqI (a:=(i:Nat)) (b:=(0:Nat)) q rfl (Ce _ _ _ _) ⟨Ext.refl _,(congrArg Value.bool (decide_eq_true (q0)))⟩
     ·refine Aa rfl fun σ w1 hC h=> ?_
      have r:=Ad (h 10 (by decide))
      exact Yk.move r ⟨Ext.refl _,rfl⟩
     ·refine Bg 2 true 11 rfl rfl (fun _ _ h=>h) fun σ w1 hC h=> ?_
      have n:=(Ad (h 0 (by decide))).trans f
      exact Yk.move n ⟨Ext.refl _,rfl⟩
     ·refine Bg 2 true 11 rfl rfl (fun _ _ h=>h) fun σ w1 hC h=> ?_
      have j:=(Ad (h 3 (by decide))).trans c
      exact Yk.move j ⟨Ext.refl _,rfl⟩
     ·refine Bg 2 true 11 rfl rfl (fun _ _ h=>h) fun σ w1 hC h=> ?_
      have t:=Ad (h 13 (by decide))
      exact Yk.bin (xv:=NI i) (yv:=NI 1) t rfl rfl (CM _ _ _ (by omega) (by omega)) ⟨Ext.refl _,rfl⟩
     ·refine Bg 2 true 11 rfl rfl (fun _ _ h=>h) fun σ w1 hC h=> ?_
      have u:=Ad (h 12 (by decide))
      have y:=Ad (h 14 (by decide))
      exact Yk.atRG BT CV (by decide) ([]:List UInt8) (RG.of (hr.keep hC) u) y (by omega) fun v h=>⟨Ext.refl _,h⟩
     ·refine Bg 2 true 11 rfl rfl (fun _ _ h=>h) fun σ w1 hC h=> ?_
      have z:(fun x w' =>PR (Lib.byteCells (l.getD ((i)-(1)) ([]:List UInt8))) x w') (σ 15) w1:=h 15 (by decide)
      exact Yk.loadPR z OA rfl (by rw[RG.elem hr ([]:List UInt8) (by omega)];exact Mx) ⟨Ext.refl _,rfl⟩
     ·refine Bg 2 true 11 rfl rfl (fun _ _ h=>h) fun σ w1 hC h=> ?_
      have n:=(Ad (h 0 (by decide))).trans f
      exact Yk.move n ⟨Ext.refl _,rfl⟩
     ·refine Bg 2 true 11 rfl rfl (fun _ _ h=>h) fun σ w1 hC h=> ?_
      have j:=(Ad (h 3 (by decide))).trans c
      exact Yk.move j ⟨Ext.refl _,rfl⟩
     ·refine Bg 2 true 11 rfl rfl (fun _ _ h=>h) fun σ w1 hC h=> ?_
      have aa:=Ad (h 17 (by decide))
      have ab:=Ad (h 18 (by decide))
      exact Yk.atRG BT CV (by decide) ([]:List UInt8) (RG.of (hr.keep hC) aa) ab (by omega) fun v h=>⟨Ext.refl _,h⟩
     ·refine Bg 2 true 11 rfl rfl (fun _ _ h=>h) fun σ w1 hC h=> ?_
      have ac:(fun x w' =>PR (Lib.byteCells (l.getD (i) ([]:List UInt8))) x w') (σ 19) w1:=h 19 (by decide)
      exact Yk.loadPR ac OA rfl (by rw[RG.elem hr ([]:List UInt8) (by omega)];exact Mx) ⟨Ext.refl _,rfl⟩
     ·refine Bg 2 true 11 rfl rfl (fun _ _ h=>h) fun σ w1 hC h=> ?_
      have ad:=Ad (h 16 (by decide))
      have ae:=Ad (h 20 (by decide))
      refine Yk.callA2 ID ad ae ((GU _ (l.getD ((i)-(1)) ([]:List UInt8)) (l.getD (i) ([]:List UInt8)) (Bp (RG.elem hr ([]:List UInt8) (by omega))) (Bp (RG.elem hr ([]:List UInt8) (by omega)))).mono ?_)
      rintro e w2 ⟨rfl,hx⟩
      exact⟨_,rfl,hx,rfl⟩
     ·refine Bg 2 true 11 rfl rfl (fun _ _ h=>h) fun σ w1 hC h=> ?_
      have af:=Ad (h 21 (by decide))
      exact Yk.eqI af (vr (NI 0) rfl) (Ld _ .i64 (Lib.compareBytes (l.getD ((i)-(1)) ([]:List UInt8)) (l.getD (i) ([]:List UInt8)):Int) ((0:Nat):Int)) ⟨Ext.refl _,(congrArg Value.bool (decide_eq_true (by omega)))⟩
     ·refine Aa rfl fun σ w1 hC h=> ?_
      have s:=Ad (h 11 (by decide))
      have ag:=Ad (h 22 (by decide))
      exact Yk.pickT s ag ⟨Ext.refl _,rfl⟩
    intro ax bu ai he hf
    obtain⟨-,-,-,-,-,-,-,-,-,-,-,-,-,-,k23,-⟩:=hf
    obtain⟨f,o,g,c,p,-⟩:=he.hold [(0,_),(3,_),(5,_),(6,_),(7,_)] ⟨f,c,g,c,(congrArg Value.bool (decide_eq_true (hlt))),trivial⟩ rfl
    clear he
    have hr:=hr.keep ai
    have hE:=hE.trans ai
    have m:ax 23 = .bool (true):=k23
    clear k23
    refine tN (au _ _ (AE m (sk fun bv ay=>(wt (oA rfl (oZ (tN (ay _ _ (Ap (AC (As (As (AC (As (Ao (fn:=Tryd.f104) _ rfl [.bool (false)] (.bool (false)) rfl ⟨rfl,trivial⟩ ?_)))))))))))))))
    exact⟨by rw[O9 hlt q0 (by omega)],hE⟩
   refine sk fun bw az=>(wt (oS rfl (Yk.eqI (a:=(i:Nat)) (b:=(l.length:Nat)) c g (AZ _ _ _ _) (oZ (tN (az _ _ (sk fun bx a0=>(AE (vr (.bool (true)) (congrArg Value.bool (decide_eq_true (hlt)))) (Ak (tN (a0 _ _ (sk fun bz a1=>(Ax (sk fun b0 a2=>(wt (oM rfl (oA rfl (oZ ?_))))))))))))))))))
   refine tN (a2 _ _ (sk fun b1 a3=> ?_))
   refine Bi [Is (NI i),Is (.bool (true)),Is (.bool (true)),Is (v),Is (NI i),Is (NI ((i)-(1))),fun x w' =>PR (Lib.byteCells (l.getD ((i)-(1)) ([]:List UInt8))) x w',Is (AB (l.getD ((i)-(1)) ([]:List UInt8))),Is (v),Is (NI i),fun x w' =>PR (Lib.byteCells (l.getD (i) ([]:List UInt8))) x w',Is (AB (l.getD (i) ([]:List UInt8))),Is (.int .i64 (Lib.compareBytes (l.getD ((i)-(1)) ([]:List UInt8)) (l.getD (i) ([]:List UInt8)):Int)),Is (.bool (false)),Is (.bool (false))] (by kernel_rfl) [9,10,11,12,13,14,15,16,17,18,19,20,21,22,23] (by kernel_rfl) (by kernel_rfl) (KO ⟨(fun _ _ _ h k=>PR.keep h k),(Iu ⟨(fun _ _ _ h k=>PR.keep h k),(EG trivial)⟩)⟩) ?a4 ?hQ2004
   case a4=>
    refine⟨?_,?_,?_,?_,?_,?_,?_,?_,?_,?_,?_,?_,?_,?_,?_,trivial⟩
    ·refine Aa rfl fun σ w1 hC h=> ?_
     have j:=(Ad (h 3 (by decide))).trans c
     exact Yk.move j ⟨Ext.refl _,rfl⟩
    ·refine Aa rfl fun σ w1 hC h=> ?_
     have q:=Ad (h 9 (by decide))
     exact Yk.eqI (a:=(i:Nat)) (b:=(0:Nat)) q rfl (Ce _ _ _ _) ⟨Ext.refl _,(congrArg Value.bool (decide_eq_true (q0)))⟩
    ·refine Aa rfl fun σ w1 hC h=> ?_
     have r:=Ad (h 10 (by decide))
     exact Yk.move r ⟨Ext.refl _,rfl⟩
    ·refine Bg 2 true 11 rfl rfl (fun _ _ h=>h) fun σ w1 hC h=> ?_
     have n:=(Ad (h 0 (by decide))).trans f
     exact Yk.move n ⟨Ext.refl _,rfl⟩
    ·refine Bg 2 true 11 rfl rfl (fun _ _ h=>h) fun σ w1 hC h=> ?_
     have j:=(Ad (h 3 (by decide))).trans c
     exact Yk.move j ⟨Ext.refl _,rfl⟩
    ·refine Bg 2 true 11 rfl rfl (fun _ _ h=>h) fun σ w1 hC h=> ?_
     have t:=Ad (h 13 (by decide))
     exact Yk.bin (xv:=NI i) (yv:=NI 1) t rfl rfl (CM _ _ _ (by omega) (by omega)) ⟨Ext.refl _,rfl⟩
    ·refine Bg 2 true 11 rfl rfl (fun _ _ h=>h) fun σ w1 hC h=> ?_
     have u:=Ad (h 12 (by decide))
     have y:=Ad (h 14 (by decide))
     exact Yk.atRG BT CV (by decide) ([]:List UInt8) (RG.of (hr.keep hC) u) y (by omega) fun v h=>⟨Ext.refl _,h⟩
    ·refine Bg 2 true 11 rfl rfl (fun _ _ h=>h) fun σ w1 hC h=> ?_
     have z:(fun x w' =>PR (Lib.byteCells (l.getD ((i)-(1)) ([]:List UInt8))) x w') (σ 15) w1:=h 15 (by decide)
     exact Yk.loadPR z OA rfl (by rw[RG.elem hr ([]:List UInt8) (by omega)];exact Mx) ⟨Ext.refl _,rfl⟩
    ·refine Bg 2 true 11 rfl rfl (fun _ _ h=>h) fun σ w1 hC h=> ?_
     have n:=(Ad (h 0 (by decide))).trans f
     exact Yk.move n ⟨Ext.refl _,rfl⟩
    ·refine Bg 2 true 11 rfl rfl (fun _ _ h=>h) fun σ w1 hC h=> ?_
     have j:=(Ad (h 3 (by decide))).trans c
     exact Yk.move j ⟨Ext.refl _,rfl⟩
    ·refine Bg 2 true 11 rfl rfl (fun _ _ h=>h) fun σ w1 hC h=> ?_
     have aa:=Ad (h 17 (by decide))
     have ab:=Ad (h 18 (by decide))
     exact Yk.atRG BT CV (by decide) ([]:List UInt8) (RG.of (hr.keep hC) aa) ab (by omega) fun v h=>⟨Ext.refl _,h⟩
    ·refine Bg 2 true 11 rfl rfl (fun _ _ h=>h) fun σ w1 hC h=> ?_
     have ac:(fun x w' =>PR (Lib.byteCells (l.getD (i) ([]:List UInt8))) x w') (σ 19) w1:=h 19 (by decide)
     exact Yk.loadPR ac OA rfl (by rw[RG.elem hr ([]:List UInt8) (by omega)];exact Mx) ⟨Ext.refl _,rfl⟩
    ·refine Bg 2 true 11 rfl rfl (fun _ _ h=>h) fun σ w1 hC h=> ?_
     have ad:=Ad (h 16 (by decide))
     have ae:=Ad (h 20 (by decide))
     refine Yk.callA2 ID ad ae ((GU _ (l.getD ((i)-(1)) ([]:List UInt8)) (l.getD (i) ([]:List UInt8)) (Bp (RG.elem hr ([]:List UInt8) (by omega))) (Bp (RG.elem hr ([]:List UInt8) (by omega)))).mono ?_)
     rintro e w2 ⟨rfl,hx⟩
     exact⟨_,rfl,hx,rfl⟩
    ·refine Bg 2 true 11 rfl rfl (fun _ _ h=>h) fun σ w1 hC h=> ?_
     have af:=Ad (h 21 (by decide))
     exact Yk.eqI af (vr (NI 0) rfl) (Ld _ .i64 (Lib.compareBytes (l.getD ((i)-(1)) ([]:List UInt8)) (l.getD (i) ([]:List UInt8)):Int) ((0:Nat):Int)) ⟨Ext.refl _,(congrArg Value.bool (decide_eq_false (by omega)))⟩
    ·refine Aa rfl fun σ w1 hC h=> ?_
     have s:=Ad (h 11 (by decide))
     have ag:=Ad (h 22 (by decide))
     exact Yk.pickT s ag ⟨Ext.refl _,rfl⟩
   intro a5 b2 aj he hf
   obtain⟨-,-,-,-,-,-,-,-,-,-,-,-,-,-,k23,-⟩:=hf
   obtain⟨f,o,g,c,p,-⟩:=he.hold [(0,_),(3,_),(5,_),(6,_),(7,_)] ⟨f,c,g,c,(congrArg Value.bool (decide_eq_true (hlt))),trivial⟩ rfl
   clear he
   have hr:=hr.keep aj
   have hE:=hE.trans aj
   have m:a5 23 = .bool (false):=k23
   clear k23
   refine tN (a3 _ _ (Al m (Ak (bN (tN (a1 _ _ (wt (oS rfl (Yk.bin (xv:=NI i) (yv:=NI 1) c rfl rfl (AN _ _ _ (by omega)) (oM rfl (Be [(0,v),(3,NI i),(5,NI l.length),(6,NI ((i)+(1))),(7, .bool (true)),(23, .bool (false))] ⟨f,o,g,rfl,p,m,trivial⟩ fun a6 ⟨f,o,g,c,p,m,_⟩=>(tN (And.intro ⟨i+1,f,g,c,hr,hE,by omega,Lv hn (by omega),trivial⟩ ?_)))))))))))))
   show l.length-(intOf (a6 6)).toNat<l.length-(intOf (ah 6)).toNat
   rw[c,q6]
   simp only[intOf,Int.toNat_natCast];omega
  refine sk fun b3 a7=>(wt (oS rfl (Yk.eqI (a:=(i:Nat)) (b:=(l.length:Nat)) c g (AZ _ _ _ _) (oZ (tN (a7 _ _ (sk fun b4 a8=>(AE (vr (.bool (true)) (congrArg Value.bool (decide_eq_true (hlt)))) (Ak (tN (a8 _ _ (sk fun b5 a9=>(Ax (sk fun b6 ba=>(wt (oM rfl (oA rfl (oZ ?_))))))))))))))))))
  refine tN (ba _ _ (sk fun b7 bb=> ?_))
  refine Bi [Is (NI i),Is (.bool (false)),Is (.bool (false)),Is undef,Is undef,Is undef,Is undef,Is undef,Is undef,Is undef,Is undef,Is undef,Is undef,Is undef,Is (.bool (false))] (by kernel_rfl) [9,10,11,12,13,14,15,16,17,18,19,20,21,22,23] (by kernel_rfl) (by kernel_rfl) (Iu (Cc trivial)) ?bc ?hQ3004
  case bc=>
   refine⟨?_,?_,?_,?_,?_,?_,?_,?_,?_,?_,?_,?_,?_,?_,?_,trivial⟩
   ·refine Aa rfl fun σ w1 hC h=> ?_
    have j:=(Ad (h 3 (by decide))).trans c
    exact Yk.move j ⟨Ext.refl _,rfl⟩
   ·refine Aa rfl fun σ w1 hC h=> ?_
    have q:=Ad (h 9 (by decide))
    exact Yk.eqI (a:=(i:Nat)) (b:=(0:Nat)) q rfl (Ce _ _ _ _) ⟨Ext.refl _,(congrArg Value.bool (decide_eq_false (q0)))⟩
   ·refine Aa rfl fun σ w1 hC h=> ?_
    have r:=Ad (h 10 (by decide))
    exact Yk.move r ⟨Ext.refl _,rfl⟩
   ·refine BN 2 true 11 rfl rfl (fun x _ (h:x = .bool false)=>by rw[h];intro h;cases h) fun _=>rfl
   ·refine BN 2 true 11 rfl rfl (fun x _ (h:x = .bool false)=>by rw[h];intro h;cases h) fun _=>rfl
   ·refine BN 2 true 11 rfl rfl (fun x _ (h:x = .bool false)=>by rw[h];intro h;cases h) fun _=>rfl
   ·refine BN 2 true 11 rfl rfl (fun x _ (h:x = .bool false)=>by rw[h];intro h;cases h) fun _=>rfl
   ·refine BN 2 true 11 rfl rfl (fun x _ (h:x = .bool false)=>by rw[h];intro h;cases h) fun _=>rfl
   ·refine BN 2 true 11 rfl rfl (fun x _ (h:x = .bool false)=>by rw[h];intro h;cases h) fun _=>rfl
   ·refine BN 2 true 11 rfl rfl (fun x _ (h:x = .bool false)=>by rw[h];intro h;cases h) fun _=>rfl
   ·refine BN 2 true 11 rfl rfl (fun x _ (h:x = .bool false)=>by rw[h];intro h;cases h) fun _=>rfl
   ·refine BN 2 true 11 rfl rfl (fun x _ (h:x = .bool false)=>by rw[h];intro h;cases h) fun _=>rfl
   ·refine BN 2 true 11 rfl rfl (fun x _ (h:x = .bool false)=>by rw[h];intro h;cases h) fun _=>rfl
   ·refine BN 2 true 11 rfl rfl (fun x _ (h:x = .bool false)=>by rw[h];intro h;cases h) fun _=>rfl
   ·refine Aa rfl fun σ w1 hC h=> ?_
    have s:=Ad (h 11 (by decide))
    exact Yk.pickF s (vr (.bool (false)) rfl) ⟨Ext.refl _,rfl⟩
  intro bd b8 ak he hf
  obtain⟨-,-,-,-,-,-,-,-,-,-,-,-,-,-,k23,-⟩:=hf
  obtain⟨f,o,g,c,p,-⟩:=he.hold [(0,_),(3,_),(5,_),(6,_),(7,_)] ⟨f,c,g,c,(congrArg Value.bool (decide_eq_true (hlt))),trivial⟩ rfl
  clear he
  have hr:=hr.keep ak
  have hE:=hE.trans ak
  have m:bd 23 = .bool (false):=k23
  clear k23
  refine tN (bb _ _ (Al m (Ak (bN (tN (a9 _ _ (wt (oS rfl (Yk.bin (xv:=NI i) (yv:=NI 1) c rfl rfl (AN _ _ _ (by omega)) (oM rfl (Be [(0,v),(3,NI i),(5,NI l.length),(6,NI ((i)+(1))),(7, .bool (true)),(23, .bool (false))] ⟨f,o,g,rfl,p,m,trivial⟩ fun be ⟨f,o,g,c,p,m,_⟩=>(tN (And.intro ⟨i+1,f,g,c,hr,hE,by omega,MB hn (by omega),trivial⟩ ?_)))))))))))))
  show l.length-(intOf (be 6)).toNat<l.length-(intOf (ah 6)).toNat
  rw[c,q6]
  simp only[intOf,Int.toNat_natCast];omega
 refine sk fun b9 bf=>(wt (oS rfl (Yk.eqI (a:=(i:Nat)) (b:=(l.length:Nat)) c g (AZ _ _ _ _) (oZ (tN (bf _ _ (sk fun ca cb=>(Al (vr (.bool (false)) (congrArg Value.bool (decide_eq_false (hlt)))) (A6 (Aw (Aw (AM (tN (an _ _ (sk fun cc bg=>(wt (oA rfl (oZ (tN (bg _ _ (Ap (Ao (fn:=Tryd.f104) _ rfl [.bool (true)] (.bool (true)) rfl ⟨rfl,trivial⟩ ?_))))))))))))))))))))))
 exact⟨by rw[N1 (show l.length≤i by omega) hn],hE⟩

theorem refSame_any(w:World)(v u_:Value)(l m:List Bs)(hr:RG 32 Lib.byteCells w v l)(hs:RG 32 Lib.byteCells w u_ m)(hll:l.length<9223372036854775807):
  Calls Tryd.prog 41 #[v,u_] w fun e w' =>e = .returned (.bool (decide (l=m)))∧Ext w w' :=by
 refine calls_of_wpF (args:= [v,u_]) Tryd.func41 rfl 26 rfl (Nat.le_of_ble_eq_true rfl) ?_
 intro af hb
 have c:af 0=(v:Value):=hb.get 0
 have g:af 1=(u_:Value):=hb.get 1
 clear hb
 have hE:=Ext.refl w
 refine sk fun K1 ag=>(wt (oA rfl (oZ ?_)))
 by_cases hq:l.length=m.length
 ·refine tN (ag _ _ (sk fun K2 ah=>(sk fun K3 ai=>(wt (oM rfl (oS rfl (Yk.lenRG BT (RG.of hr c) (oM rfl (oS rfl (Yk.lenRG BT (RG.of hs g) (oS rfl (Yk.eqI (a:=(l.length:Nat)) (b:=(m.length:Nat)) rfl rfl (DW _ _ _ _) (oZ (tN (ai _ _ (Al (vr (.bool (false)) (congrArg Value.bool (decide_eq_false (fun h=>h hq)))) (Ak (tN (ah _ _ (sk fun K4 aj=>(sk fun K5 ak=> ?_)))))))))))))))))))))
  refine wt (oA rfl (Be [(0,v),(1,u_),(4, .bool (false)),(5,NI 0),(10, .bool (false))] ⟨c,g,rfl,rfl,(congrArg Value.bool (decide_eq_false (fun h=>h hq))),trivial⟩ fun ba ⟨c,g,T4,f,j,_⟩=>(tN (ak _ _ (Ax (Bc (fun(ρ:At) (wz:World)=>∃i:Nat,ρ 0=(v:Value)∧ρ 1=(u_:Value)∧ρ 10=(.bool (false):Value)∧ρ 5=(NI i:Value)∧RG 32 Lib.byteCells wz v l∧RG 32 Lib.byteCells wz u_ m∧Ext w wz∧(i≤l.length)∧(l.take i=m.take i)∧True) (fun ρ _=>l.length-(intOf (ρ 5)).toNat) ⟨0,c,g,j,f,hr,hs,hE,Nat.zero_le _,(by simp),trivial⟩ ?_))))))
  clear hr hs hE
  rintro al w8 ⟨i,c,g,j,f,hr,hs,hE,hi,hn,-⟩
  have q5:=f
  by_cases hlt:i<l.length
  ·have hel:(l.getD i []).length=32:=Bp (RG.elem hr [] hlt)
   have hem:(m.getD i []).length=32:=Bp (RG.elem hs [] (by omega))
   by_cases q1:l.getD i []=m.getD i []
   ·refine sk fun K9 am=>(sk fun be an=>(wt (oM rfl (oM rfl (oS rfl (Yk.lenRG BT (RG.of hr c) (oS rfl (Yk.eqI (a:=(i:Nat)) (b:=(l.length:Nat)) f rfl (AZ _ _ _ _) (oZ (tN (an _ _ (AE (vr (.bool (true)) (congrArg Value.bool (decide_eq_true (hlt)))) (Ak (tN (am _ _ (sk fun bf ao=>(Ax (sk fun bg ap=> ?_))))))))))))))))))
    refine Bi [Is (v),Is (NI i),fun x w' =>PR (Lib.byteCells (l.getD (i) ([]:List UInt8))) x w',Is (AB (l.getD (i) ([]:List UInt8))),Is (u_),Is (NI i),fun x w' =>PR (Lib.byteCells (m.getD (i) ([]:List UInt8))) x w',Is (AB (m.getD (i) ([]:List UInt8))),Is (.bool (false))] (by kernel_rfl) [17,18,19,20,21,22,23,24,25] (by kernel_rfl) (by kernel_rfl) (Cz ⟨(fun _ _ _ h k=>PR.keep h k),(Iu ⟨(fun _ _ _ h k=>PR.keep h k),(Cz trivial)⟩)⟩) ?aq ?hQ1006
    case aq=>
     refine⟨?_,?_,?_,?_,?_,?_,?_,?_,?_,trivial⟩
     ·refine Aa rfl fun σ w1 hC h=> ?_
      have p:=(Ad (h 0 (by decide))).trans c
      exact Yk.move p ⟨Ext.refl _,rfl⟩
     ·refine Aa rfl fun σ w1 hC h=> ?_
      have n:=(Ad (h 5 (by decide))).trans f
      exact Yk.move n ⟨Ext.refl _,rfl⟩
     ·refine Aa rfl fun σ w1 hC h=> ?_
      have q:=Ad (h 17 (by decide))
      have r:=Ad (h 18 (by decide))
      exact Yk.atRG BT CV (by decide) ([]:List UInt8) (RG.of (hr.keep hC) q) r (by omega) fun v h=>⟨Ext.refl _,h⟩
     ·refine Aa rfl fun σ w1 hC h=> ?_
      have s:(fun x w' =>PR (Lib.byteCells (l.getD (i) ([]:List UInt8))) x w') (σ 19) w1:=h 19 (by decide)
      exact Yk.loadPR s OA rfl (by rw[RG.elem hr ([]:List UInt8) (by omega)];exact Mx) ⟨Ext.refl _,rfl⟩
     ·refine Aa rfl fun σ w1 hC h=> ?_
      have t:=(Ad (h 1 (by decide))).trans g
      exact Yk.move t ⟨Ext.refl _,rfl⟩
     ·refine Aa rfl fun σ w1 hC h=> ?_
      have n:=(Ad (h 5 (by decide))).trans f
      exact Yk.move n ⟨Ext.refl _,rfl⟩
     ·refine Aa rfl fun σ w1 hC h=> ?_
      have u:=Ad (h 21 (by decide))
      have y:=Ad (h 22 (by decide))
      exact Yk.atRG BT CV (by decide) ([]:List UInt8) (RG.of (hs.keep hC) u) y (by omega) fun v h=>⟨Ext.refl _,h⟩
     ·refine Aa rfl fun σ w1 hC h=> ?_
      have z:(fun x w' =>PR (Lib.byteCells (m.getD (i) ([]:List UInt8))) x w') (σ 23) w1:=h 23 (by decide)
      exact Yk.loadPR z OA rfl (by rw[RG.elem hs ([]:List UInt8) (by omega)];exact Mx) ⟨Ext.refl _,rfl⟩
     ·refine Aa rfl fun σ w1 hC h=> ?_
      have aa:=Ad (h 20 (by decide))
      have ab:=Ad (h 24 (by decide))
      exact Yk.neArr (l1:=(l.getD (i) ([]:List UInt8))) (l2:=(m.getD (i) ([]:List UInt8))) OA u5 Lm Ha aa ab (hel) (hem) ⟨Ext.refl _,(congrArg Value.bool (decide_eq_false (fun h=>h q1)))⟩
    intro ar bh ac he hf
    obtain⟨-,-,-,-,-,-,-,-,k25,-⟩:=hf
    obtain⟨c,g,f,j,ad,-⟩:=he.hold [(0,_),(1,_),(5,_),(10,_),(14,_)] ⟨c,g,f,j,(congrArg Value.bool (decide_eq_true (hlt))),trivial⟩ rfl
    clear he
    have hr:=hr.keep ac
    have hs:=hs.keep ac
    have hE:=hE.trans ac
    have o:ar 25 = .bool (false):=k25
    clear k25
    refine tN (ap _ _ (Al o (Ak (bN (tN (ao _ _ (wt (oM rfl (oS rfl (Yk.bin (xv:=NI i) (yv:=NI 1) f rfl rfl (AN _ _ _ (by omega)) (oA rfl (Be [(0,v),(1,u_),(5,NI ((i)+(1))),(10, .bool (false)),(14, .bool (true)),(25, .bool (false))] ⟨c,g,rfl,j,ad,o,trivial⟩ fun au ⟨c,g,f,j,ad,o,_⟩=>(tN (And.intro ⟨i+1,c,g,j,f,hr,hs,hE,by omega,IC hlt (by omega) hn q1,trivial⟩ ?_))))))))))))))
    show l.length-(intOf (au 5)).toNat<l.length-(intOf (al 5)).toNat
    rw[f,q5]
    simp only[intOf,Int.toNat_natCast];omega
   refine sk fun bi av=>(sk fun bj aw=>(wt (oM rfl (oM rfl (oS rfl (Yk.lenRG BT (RG.of hr c) (oS rfl (Yk.eqI (a:=(i:Nat)) (b:=(l.length:Nat)) f rfl (AZ _ _ _ _) (oZ (tN (aw _ _ (AE (vr (.bool (true)) (congrArg Value.bool (decide_eq_true (hlt)))) (Ak (tN (av _ _ (sk fun bk bm=>(Ax (sk fun bn ax=> ?_))))))))))))))))))
   refine Bi [Is (v),Is (NI i),fun x w' =>PR (Lib.byteCells (l.getD (i) ([]:List UInt8))) x w',Is (AB (l.getD (i) ([]:List UInt8))),Is (u_),Is (NI i),fun x w' =>PR (Lib.byteCells (m.getD (i) ([]:List UInt8))) x w',Is (AB (m.getD (i) ([]:List UInt8))),Is (.bool (true))] (by kernel_rfl) [17,18,19,20,21,22,23,24,25] (by kernel_rfl) (by kernel_rfl) (Cz ⟨(fun _ _ _ h k=>PR.keep h k),(Iu ⟨(fun _ _ _ h k=>PR.keep h k),(Cz trivial)⟩)⟩) ?ay ?hQ2006
   case ay=>
    refine⟨?_,?_,?_,?_,?_,?_,?_,?_,?_,trivial⟩
    ·refine Aa rfl fun σ w1 hC h=> ?_
     have p:=(Ad (h 0 (by decide))).trans c
     exact Yk.move p ⟨Ext.refl _,rfl⟩
    ·refine Aa rfl fun σ w1 hC h=> ?_
     have n:=(Ad (h 5 (by decide))).trans f
     exact Yk.move n ⟨Ext.refl _,rfl⟩
    ·refine Aa rfl fun σ w1 hC h=> ?_
     have q:=Ad (h 17 (by decide))
     have r:=Ad (h 18 (by decide))
     exact Yk.atRG BT CV (by decide) ([]:List UInt8) (RG.of (hr.keep hC) q) r (by omega) fun v h=>⟨Ext.refl _,h⟩
    ·refine Aa rfl fun σ w1 hC h=> ?_
     have s:(fun x w' =>PR (Lib.byteCells (l.getD (i) ([]:List UInt8))) x w') (σ 19) w1:=h 19 (by decide)
     exact Yk.loadPR s OA rfl (by rw[RG.elem hr ([]:List UInt8) (by omega)];exact Mx) ⟨Ext.refl _,rfl⟩
    ·refine Aa rfl fun σ w1 hC h=> ?_
     have t:=(Ad (h 1 (by decide))).trans g
     exact Yk.move t ⟨Ext.refl _,rfl⟩
    ·refine Aa rfl fun σ w1 hC h=> ?_
     have n:=(Ad (h 5 (by decide))).trans f
     exact Yk.move n ⟨Ext.refl _,rfl⟩
    ·refine Aa rfl fun σ w1 hC h=> ?_
     have u:=Ad (h 21 (by decide))
     have y:=Ad (h 22 (by decide))
     exact Yk.atRG BT CV (by decide) ([]:List UInt8) (RG.of (hs.keep hC) u) y (by omega) fun v h=>⟨Ext.refl _,h⟩
    ·refine Aa rfl fun σ w1 hC h=> ?_
     have z:(fun x w' =>PR (Lib.byteCells (m.getD (i) ([]:List UInt8))) x w') (σ 23) w1:=h 23 (by decide)
     exact Yk.loadPR z OA rfl (by rw[RG.elem hs ([]:List UInt8) (by omega)];exact Mx) ⟨Ext.refl _,rfl⟩
    ·refine Aa rfl fun σ w1 hC h=> ?_
     have aa:=Ad (h 20 (by decide))
     have ab:=Ad (h 24 (by decide))
     exact Yk.neArr (l1:=(l.getD (i) ([]:List UInt8))) (l2:=(m.getD (i) ([]:List UInt8))) OA u5 Lm Ha aa ab (hel) (hem) ⟨Ext.refl _,(congrArg Value.bool (decide_eq_true (q1)))⟩
   intro az bo ae he hf
   obtain⟨-,-,-,-,-,-,-,-,k25,-⟩:=hf
   obtain⟨c,g,f,j,ad,-⟩:=he.hold [(0,_),(1,_),(5,_),(10,_),(14,_)] ⟨c,g,f,j,(congrArg Value.bool (decide_eq_true (hlt))),trivial⟩ rfl
   clear he
   have hr:=hr.keep ae
   have hs:=hs.keep ae
   have hE:=hE.trans ae
   have o:az 25 = .bool (true):=k25
   clear k25
   refine tN (ax _ _ (AE o (sk fun bp a0=>(wt (oA rfl (oZ (tN (a0 _ _ (Ap (AC (As (As (AC (As (Ao (fn:=Tryd.f41) _ rfl [.bool (false)] (.bool (false)) rfl ⟨rfl,trivial⟩ ?_)))))))))))))))
   exact⟨by rw[decide_eq_false (KR q1)],hE⟩
  refine sk fun bq br=>(sk fun bs a1=>(wt (oM rfl (oM rfl (oS rfl (Yk.lenRG BT (RG.of hr c) (oS rfl (Yk.eqI (a:=(i:Nat)) (b:=(l.length:Nat)) f rfl (AZ _ _ _ _) (oZ (tN (a1 _ _ (Al (vr (.bool (false)) (congrArg Value.bool (decide_eq_false (hlt)))) (A6 (Aw (Aw (AM (tN (aj _ _ (sk fun bt a2=>(wt (oA rfl (oZ ?_))))))))))))))))))))))
  refine tN (a2 _ _ (Ap (Ao (fn:=Tryd.f41) _ rfl [.bool (true)] (.bool (true)) rfl ⟨rfl,trivial⟩ ?_)))
  rw[show i=l.length by omega,List.take_length,show l.length=m.length by omega,List.take_length]at hn
  exact⟨by rw[decide_eq_true hn],hE⟩
 refine tN (ag _ _ (sk fun bu bv=>(sk fun bw a3=>(wt (oM rfl (oS rfl (Yk.lenRG BT (RG.of hr c) (oM rfl (oS rfl (Yk.lenRG BT (RG.of hs g) (oS rfl (Yk.eqI (a:=(l.length:Nat)) (b:=(m.length:Nat)) rfl rfl (DW _ _ _ _) (oZ (tN (a3 _ _ (AE (vr (.bool (true)) (congrArg Value.bool (decide_eq_true (hq)))) (sk fun bx a4=>(wt (oA rfl (oZ ?_))))))))))))))))))))
 refine tN (a4 _ _ (Ap (As (Ao (fn:=Tryd.f41) _ rfl [.bool (false)] (.bool (false)) rfl ⟨rfl,trivial⟩ ?_))))
 exact⟨by rw[decide_eq_false (fun e=>hq (by rw[e]))],hE⟩
open Go.RowKit
def EM(u:AO):Bool:=(((((decide (u.kind.toNat≠1))&&(decide (u.kind.toNat≠2)))||(!nameB u.name))||(!zeroB u.old))||(zeroB u.new))
def Hc(a u:AO):Bool:=(decide (u.kind.toNat<a.kind.toNat))||((decide (a.kind.toNat=u.kind.toNat))&&(!(Op.bytesLess a.name u.name)))
def EN(l:List AO)(i:Nat):Prop:=∀j,j<i→EM (l.getD j Aj)=false∧(0<j→Hc (l.getD (j-1) Aj) (l.getD j Aj)=false)
open Classical in
noncomputable def Cm(l:List AO):Bool:=decide (EN l l.length∧l.length≤128)
theorem Km(l:List AO):EN l 0:=fun j h=>by omega
theorem Kn{l:List AO}{i:Nat}(h:EN l i)(h1:EM (l.getD i Aj)=false)(h2:0<i→Hc (l.getD (i-1) Aj) (l.getD i Aj)=false):EN l (i+1):=fun j hj=>by
  by_cases e:j<i
  · exact h j e
  · obtain rfl:j=i:=by omega
    exact⟨h1,h2⟩
theorem MF{l:List AO}{i:Nat}(hi:l.length≤i)(h:EN l i):Cm l=decide (l.length≤128):=by
  classical
  have h1:EN l l.length:=fun j hj=>h j (by omega)
  unfold Cm
  by_cases h2:l.length≤128
  · rw[decide_eq_true h2,decide_eq_true ⟨h1,h2⟩]
  · rw[decide_eq_false h2,decide_eq_false (fun k=>h2 k.2)]
theorem MG{l:List AO}{i:Nat}(hi:i<l.length)(h:EM (l.getD i Aj)=true):Cm l=false:=by
  classical
  exact decide_eq_false (fun k=>by have:=(k.1 i hi).1;rw[h]at this;cases this)
theorem MH{l:List AO}{i:Nat}(hi:i<l.length)(h0:0<i)(h:Hc (l.getD (i-1) Aj) (l.getD i Aj)=true):Cm l=false:=by
  classical
  exact decide_eq_false (fun k=>by have:=(k.1 i hi).2 h0;rw[h]at this;cases this)
noncomputable def CF(l:List Bs):Bool:=(decide (l.length≤65536)&&G9 l)&&(decide (l.length=0)|| !decide (l.getD 0 []=List.replicate 32 0))
def boundB(n m:Int):Bool:=decide (n≥((0:Nat):Int))&&decide (n≤m)
theorem P7{a b:Bool}(h:(a&&b)=true):a=true∧b=true:=⟨P4 h,P5 h⟩
theorem P8{a b:Bool}(h:(a&&b)=false)(ha:a=true):b=false:=by rw[ha]at h;exact h
open Go.RowKit
set_option maxRecDepth 100000
theorem DS:Tryd.prog.underlying 22=some (.slice 67):=by kernel_rfl
theorem E2:∀w' :World,(sizeOf 67).run Tryd.prog w' = .ok 66 w' :=fun _=>by kernel_rfl
theorem N2:∃fs,Tryd.prog.underlying 67=some (.struct fs):=CU (by kernel_rfl)
theorem IE:(Tryd.prog.info? 67).map (·.size)=some 66:=by kernel_rfl
theorem N3{d:Option Tmp}{ty:TypeId}{pos:String}{af:Array Edge}{gd:Option (Nat × Bool)}(σ:Operand→Value)(w:World):(execOp σ ⟨d, .alloc 67,ty,pos,af,gd⟩).run Tryd.prog w = .ok (.value (PQ w.heap.size 0)) (w.alloc (.cells (updC (⟨0,[],zid,zid⟩:AO)).toArray 67)):=by kernel_rfl
theorem Di:AJ Tryd.prog 67 0 0:=fun b o w=>by simp[go_sem]
theorem FG:AJ Tryd.prog 67 1 1:=fun b o w=>by simp[go_sem]
theorem N4:AG Tryd.prog 59:=fun _ _=>by kernel_rfl
theorem Lw:AJ Tryd.prog 67 2 2:=fun b o w=>by simp[go_sem]
theorem Hd:AG Tryd.prog 60:=fun _ _=>by kernel_rfl
theorem Lx:AJ Tryd.prog 67 3 34:=fun b o w=>by simp[go_sem]
theorem MI:AG Tryd.prog 104:=fun _ _=>by kernel_rfl
set_option maxHeartbeats 1600000
theorem MJ(w:World)(v:Value)(l:List AO)(hr:RG 66 updC w v l)(hll:l.length<9223372036854775807)(hln:∀u∈l,u.name.length≤4611686018427387904):
  Calls Tryd.prog 57 #[v] w fun e w' =>e = .returned (.bool (Cm l))∧Ext w w' :=by
 refine calls_of_wpF (args:= [v]) Tryd.func57 rfl 76 rfl (Nat.le_of_ble_eq_true rfl) ?_
 intro an hb
 have o:an 0=(v:Value):=hb.get 0
 clear hb
 have hE:=Ext.refl w
 refine sk fun K1 ao=>(wt (oA rfl (oZ (tN (ao _ _ (sk fun K2 ap=>(sk fun K3 aq=>(wt (oM rfl (oS rfl (Yk.lenRG DS (RG.of hr o) (oM rfl (Be [(0,v),(2, .bool (false)),(5,v),(6,NI l.length),(7,NI 0)] ⟨o,rfl,o,rfl,rfl,trivial⟩ fun cg ⟨o,T2,p,q,g,_⟩=>(tN (aq _ _ (Ax (Bc (fun(ρ:At) (wz:World)=>∃i:Nat,ρ 0=(v:Value)∧ρ 5=(v:Value)∧ρ 6=(NI l.length:Value)∧ρ 7=(NI i:Value)∧RG 66 updC wz v l∧Ext w wz∧(i≤l.length)∧(EN l i)∧True) (fun ρ _=>l.length-(intOf (ρ 7)).toNat) ⟨0,o,p,q,g,hr,hE,Nat.zero_le _,Km _,trivial⟩ ?_)))))))))))))))))
 clear hr hE
 rintro ar w6 ⟨i,o,p,q,g,hr,hE,hi,hn,-⟩
 have q7:=g
 refine sk fun K7 av=>(wt (oS rfl (Yk.eqI (a:=(i:Nat)) (b:=(l.length:Nat)) g q (AZ _ _ _ _) (oZ (tN (av _ _ (sk fun K8 aw=> ?_)))))))
 refine A2 ((i)<(l.length)) (vr (.bool (decide ((i)<(l.length)))) rfl) (fun ad=> ?_) (fun ad=> ?_)
 ·have hlt:i<l.length:=ad
  have hnm:=hln _ (FF Aj hlt)
  refine Ak (tN (aw _ _ (sk fun K9 ax=>(Ax (sk fun cl ay=>(wt (oM rfl ?_)))))))
  have cm:(updC (l.getD (i) Aj)).length=66:=(RG.elem hr Aj (by omega))
  refine oS rfl (Yk.atRG DS E2 (by decide) Aj (RG.of hr p) g (by omega) fun az ae=>(oS rfl (Yk.loadPR (PR.of ae (vr az rfl)) (N2).choose_spec rfl (by rw[BW];exact IE) (oS rfl (Yk.alloc (cs:=(updC (⟨0,[],zid,zid⟩:AO)).toArray) N3 fun c a0 cn af ag co=> ?_)))))
  have j:=Ext.refl w6
  have a1:=hE.size
  have hE:=hE.trans ag
  have j:=j.trans ag
  have f:=af;clear af
  have cp:c<a0.heap.size:=by omega
  refine oA rfl (oS rfl (Yk.storeAll (vr (PQ c 0) rfl) (vr (.agg (updC (l.getD (i) Aj)).toArray) rfl) f (by simp only[List.size_toArray,BW]) (AF (BW _) IE) (DM (x:=(l.getD (i) Aj))) fun a2 ah ai cq=> ?_))
  have hE:=Ae hE ai (Nat.le_trans a1 (by omega))
  have j:=Ae j ai (Nat.le_trans (Nat.le_refl _) (by omega))
  clear f
  have f:a2.heap[c]? =some (.cells (updC (l.getD (i) Aj)).toArray 67 (0,0)):=ah;clear ah
  have cr:=bl f
  refine oZ ?_
  clear ae
  refine tN (ay _ _ (sk fun ct a3=>(sk fun cu a4=>(wt (oS rfl (Yk.fieldAt Di (vr (PQ c 0) rfl) (oS rfl (Yk.cell1 u5 rfl (vr (PQ c 0) rfl) (Ac f (show(updC (l.getD (i) Aj))[0]? =some (B8 (((l.getD (i) Aj)).kind):Value)from D2 (l.getD (i) Aj))) (oS rfl (Yk.eqI (a:=((((l.getD (i) Aj)).kind).toNat:Nat)) (b:=(1:Nat)) rfl rfl (DW _ _ _ _) (oM rfl (Ab (PQ c 0) rfl rfl (gT (vr (.bool (decide (((((l.getD (i) Aj)).kind).toNat:Nat)≠(1)))) rfl)) (fun hG32=>Yk.fieldAt Di (vr (PQ c 0) rfl) ⟨rfl,rfl⟩) (Ab (B8 (((l.getD (i) Aj)).kind)) rfl rfl (gT (vr (.bool (decide (((((l.getD (i) Aj)).kind).toNat:Nat)≠(1)))) rfl)) (fun hG33=>Yk.cell1 u5 rfl (mayT (vr (cond ((decide (((((l.getD (i) Aj)).kind).toNat:Nat)≠(1)))) (PQ c 0) undef) rfl) hG33) (Ac f (show(updC (l.getD (i) Aj))[0]? =some (B8 (((l.getD (i) Aj)).kind):Value)from D2 (l.getD (i) Aj))) ⟨rfl,rfl⟩) (Ab (.bool (decide (((((l.getD (i) Aj)).kind).toNat:Nat)≠(2)))) rfl rfl (gT (vr (.bool (decide (((((l.getD (i) Aj)).kind).toNat:Nat)≠(1)))) rfl)) (fun hG34=>Yk.eqI (a:=(((((l.getD (i) Aj)).kind).toNat:Nat):Int)) (b:=((2:Nat):Int)) (mayT (vr (cond ((decide (((((l.getD (i) Aj)).kind).toNat:Nat)≠(1)))) (B8 (((l.getD (i) Aj)).kind)) undef) rfl) hG34) (vr (B8 (2)) rfl) (DW _ .u8 ((((l.getD (i) Aj)).kind).toNat) (2)) ⟨rfl,rfl⟩) (oS rfl (Yk.pickAndN (vr (.bool (decide (((((l.getD (i) Aj)).kind).toNat:Nat)≠(1)))) rfl) (fun hA=>(mayT (vr (cond ((decide (((((l.getD (i) Aj)).kind).toNat:Nat)≠(1)))) (.bool (decide (((((l.getD (i) Aj)).kind).toNat:Nat)≠(2)))) undef) rfl) hA)) (vr (.bool (false)) rfl) fun bb35 hbb36=>(oM rfl (Ab (PQ c 1) rfl rfl (gF (vr (.bool (bb35)) rfl)) (fun hG37=>Yk.fieldAt FG (vr (PQ c 0) rfl) ⟨rfl,rfl⟩) (Ab (St (((l.getD (i) Aj)).name)) rfl rfl (gF (vr (.bool (bb35)) rfl)) (fun hG38=>Yk.cell1 Dx rfl (mayT (vr (cond (!bb35) (PQ c 1) undef) rfl) hG38) (Ac f (show(updC (l.getD (i) Aj))[1]? =some (St (((l.getD (i) Aj)).name):Value)from Fg (l.getD (i) Aj))) ⟨rfl,rfl⟩) (AP (.bool (nameB (((l.getD (i) Aj)).name))) rfl rfl (gF (vr (.bool (bb35)) rfl)) (fun hG39=>Yk.callA1 N4 (mayT (vr (cond (!bb35) (St (((l.getD (i) Aj)).name)) undef) rfl) hG39) ((FE _ (((l.getD (i) Aj)).name) (by have:=hnm;omega)).mono (by rintro e w2 ⟨rfl,hx⟩;exact⟨_,rfl,rfl,hx⟩))) fun cv y=> ?_))))))))))))))))))))
  have hE:=hE.trans y
  have j:=j.trans y
  have f:=eb y f
  refine Ab (.bool (!(nameB (((l.getD (i) Aj)).name)))) rfl rfl (gF (vr (.bool (bb35)) rfl)) (fun hG43=>Yk.notB (mayT (vr (cond (!bb35) (.bool (nameB (((l.getD (i) Aj)).name))) undef) rfl) hG43) ⟨rfl,rfl⟩) (oS rfl (Yk.pickOrN (vr (.bool (bb35)) rfl) (vr (.bool (true)) rfl) (fun hA=>(mayT (vr (cond (!bb35) (.bool (!(nameB (((l.getD (i) Aj)).name)))) undef) rfl) (not_i hA))) fun bb44 hbb45=>(oM rfl (Ab (PQ c 2) rfl rfl (gF (vr (.bool (bb44)) rfl)) (fun hG46=>Yk.fieldAt Lw (vr (PQ c 0) rfl) ⟨rfl,rfl⟩) (Ab (AB (((l.getD (i) Aj)).old.1)) rfl rfl (gF (vr (.bool (bb44)) rfl)) (fun hG47=>Yk.loadPR (PR.blk f (Jq (l.getD (i) Aj)) (Jr (l.getD (i) Aj)) (mayT (vr (cond (!bb44) (PQ c 2) undef) rfl) hG47)) OA rfl (AH ((l.getD (i) Aj)).old.2) ⟨rfl,rfl⟩) (AP (.bool (zeroB (((l.getD (i) Aj)).old))) rfl rfl (gF (vr (.bool (bb44)) rfl)) (fun hG48=>Yk.callA1 Hd (mayT (vr (cond (!bb44) (AB (((l.getD (i) Aj)).old.1)) undef) rfl) hG48) ((Dc _ (((l.getD (i) Aj)).old)).mono (by rintro e w2 ⟨rfl,hx⟩;exact⟨_,rfl,rfl,hx⟩))) fun cw z=> ?_))))))
  have hE:=hE.trans z
  have j:=j.trans z
  have f:=eb z f
  refine Ab (.bool (!(zeroB (((l.getD (i) Aj)).old)))) rfl rfl (gF (vr (.bool (bb44)) rfl)) (fun hG52=>Yk.notB (mayT (vr (cond (!bb44) (.bool (zeroB (((l.getD (i) Aj)).old))) undef) rfl) hG52) ⟨rfl,rfl⟩) (oS rfl (Yk.pickOrN (vr (.bool (bb44)) rfl) (vr (.bool (true)) rfl) (fun hA=>(mayT (vr (cond (!bb44) (.bool (!(zeroB (((l.getD (i) Aj)).old)))) undef) rfl) (not_i hA))) fun bb53 hbb54=>(oM rfl (Ab (PQ c 34) rfl rfl (gF (vr (.bool (bb53)) rfl)) (fun hG55=>Yk.fieldAt Lx (vr (PQ c 0) rfl) ⟨rfl,rfl⟩) (Ab (AB (((l.getD (i) Aj)).new.1)) rfl rfl (gF (vr (.bool (bb53)) rfl)) (fun hG56=>Yk.loadPR (PR.blk f (Fi (l.getD (i) Aj)) (F7 (l.getD (i) Aj)) (mayT (vr (cond (!bb53) (PQ c 34) undef) rfl) hG56)) OA rfl (AH ((l.getD (i) Aj)).new.2) ⟨rfl,rfl⟩) (AP (.bool (zeroB (((l.getD (i) Aj)).new))) rfl rfl (gF (vr (.bool (bb53)) rfl)) (fun hG57=>Yk.callA1 Hd (mayT (vr (cond (!bb53) (AB (((l.getD (i) Aj)).new.1)) undef) rfl) hG57) ((Dc _ (((l.getD (i) Aj)).new)).mono (by rintro e w2 ⟨rfl,hx⟩;exact⟨_,rfl,rfl,hx⟩))) fun cx aa=> ?_))))))
  have hE:=hE.trans aa
  have j:=j.trans aa
  have f:=eb aa f
  refine oS rfl (Yk.pickOrN (vr (.bool (bb53)) rfl) (vr (.bool (true)) rfl) (fun hA=>(mayT (vr (cond (!bb53) (.bool (zeroB (((l.getD (i) Aj)).new))) undef) rfl) (not_i hA))) fun bb61 hbb62=>(oZ (tN (a4 _ _ ?_))))
  refine A0 (bb61) (vr (.bool (bb61)) rfl) (fun ab=> ?_) (fun ab=> ?_)
  ·subst hbb36 hbb45 hbb54 hbb62
   have hbad:EM (l.getD i Aj)=true:=ab
   refine sk fun cy a5=>(wt (oA rfl (oZ (tN (a5 _ _ (Ap (As (AC (As (As (AC (As (Ao (fn:=Tryd.f57) _ rfl [.bool (false)] (.bool (false)) rfl ⟨rfl,trivial⟩ ?_)))))))))))))
   exact⟨by rw[MG hlt hbad],hE⟩
  subst hbb36 hbb45 hbb54 hbb62
  have hbad:EM (l.getD i Aj)=false:=ab
  refine Ak (tN (a3 _ _ (sk fun cz a6=> ?_)))
  refine Bi [Is (NI i),Is (.bool (decide ((0)<(i)))),Is (.bool (decide ((0)<(i)))),Is (cond ((decide ((0)<(i)))) (v) undef),Is (cond ((decide ((0)<(i)))) (NI i) undef),Is (cond ((decide ((0)<(i)))) (NI ((i)-(1))) undef),fun x w' =>((decide ((0)<(i))))=true→(fun x w' =>PR (updC (l.getD ((i)-(1)) Aj)) x w') x w',fun x w' =>((decide ((0)<(i))))=true→(BD (B8 ((l.getD ((i)-(1)) Aj).kind))) x w',Is (cond ((decide ((0)<(i)))) (B8 ((l.getD ((i)-(1)) Aj).kind)) undef),Is (cond ((decide ((0)<(i)))) (PQ c 0) undef),Is (cond ((decide ((0)<(i)))) (B8 (((l.getD (i) Aj)).kind)) undef),Is (cond ((decide ((0)<(i)))) (.bool (decide (((((l.getD (i) Aj)).kind).toNat)<(((l.getD ((i)-(1)) Aj).kind).toNat)))) undef),Is (cond ((decide ((0)<(i)))) (.bool (decide (((((l.getD (i) Aj)).kind).toNat)<(((l.getD ((i)-(1)) Aj).kind).toNat)))) undef),Is (cond ((decide ((0)<(i)))&& !(decide (((((l.getD (i) Aj)).kind).toNat)<(((l.getD ((i)-(1)) Aj).kind).toNat)))) (v) undef),Is (cond ((decide ((0)<(i)))&& !(decide (((((l.getD (i) Aj)).kind).toNat)<(((l.getD ((i)-(1)) Aj).kind).toNat)))) (NI i) undef),Is (cond ((decide ((0)<(i)))&& !(decide (((((l.getD (i) Aj)).kind).toNat)<(((l.getD ((i)-(1)) Aj).kind).toNat)))) (NI ((i)-(1))) undef),fun x w' =>((decide ((0)<(i)))&& !(decide (((((l.getD (i) Aj)).kind).toNat)<(((l.getD ((i)-(1)) Aj).kind).toNat))))=true→(fun x w' =>PR (updC (l.getD ((i)-(1)) Aj)) x w') x w',fun x w' =>((decide ((0)<(i)))&& !(decide (((((l.getD (i) Aj)).kind).toNat)<(((l.getD ((i)-(1)) Aj).kind).toNat))))=true→(BD (B8 ((l.getD ((i)-(1)) Aj).kind))) x w',Is (cond ((decide ((0)<(i)))&& !(decide (((((l.getD (i) Aj)).kind).toNat)<(((l.getD ((i)-(1)) Aj).kind).toNat)))) (B8 ((l.getD ((i)-(1)) Aj).kind)) undef),Is (cond ((decide ((0)<(i)))&& !(decide (((((l.getD (i) Aj)).kind).toNat)<(((l.getD ((i)-(1)) Aj).kind).toNat)))) (PQ c 0) undef),Is (cond ((decide ((0)<(i)))&& !(decide (((((l.getD (i) Aj)).kind).toNat)<(((l.getD ((i)-(1)) Aj).kind).toNat)))) (B8 (((l.getD (i) Aj)).kind)) undef),Is (cond ((decide ((0)<(i)))&& !(decide (((((l.getD (i) Aj)).kind).toNat)<(((l.getD ((i)-(1)) Aj).kind).toNat)))) (.bool (decide ((((l.getD ((i)-(1)) Aj).kind).toNat:Nat)=((((l.getD (i) Aj)).kind).toNat)))) undef),Is (cond ((decide ((0)<(i)))&& !(decide (((((l.getD (i) Aj)).kind).toNat)<(((l.getD ((i)-(1)) Aj).kind).toNat)))) (.bool (decide ((((l.getD ((i)-(1)) Aj).kind).toNat:Nat)=((((l.getD (i) Aj)).kind).toNat)))) undef),Is (cond (((decide ((0)<(i)))&& !(decide (((((l.getD (i) Aj)).kind).toNat)<(((l.getD ((i)-(1)) Aj).kind).toNat))))&&(decide ((((l.getD ((i)-(1)) Aj).kind).toNat:Nat)=((((l.getD (i) Aj)).kind).toNat)))) (v) undef),Is (cond (((decide ((0)<(i)))&& !(decide (((((l.getD (i) Aj)).kind).toNat)<(((l.getD ((i)-(1)) Aj).kind).toNat))))&&(decide ((((l.getD ((i)-(1)) Aj).kind).toNat:Nat)=((((l.getD (i) Aj)).kind).toNat)))) (NI i) undef),Is (cond (((decide ((0)<(i)))&& !(decide (((((l.getD (i) Aj)).kind).toNat)<(((l.getD ((i)-(1)) Aj).kind).toNat))))&&(decide ((((l.getD ((i)-(1)) Aj).kind).toNat:Nat)=((((l.getD (i) Aj)).kind).toNat)))) (NI ((i)-(1))) undef),fun x w' =>(((decide ((0)<(i)))&& !(decide (((((l.getD (i) Aj)).kind).toNat)<(((l.getD ((i)-(1)) Aj).kind).toNat))))&&(decide ((((l.getD ((i)-(1)) Aj).kind).toNat:Nat)=((((l.getD (i) Aj)).kind).toNat))))=true→(fun x w' =>PR (updC (l.getD ((i)-(1)) Aj)) x w') x w',fun x w' =>(((decide ((0)<(i)))&& !(decide (((((l.getD (i) Aj)).kind).toNat)<(((l.getD ((i)-(1)) Aj).kind).toNat))))&&(decide ((((l.getD ((i)-(1)) Aj).kind).toNat:Nat)=((((l.getD (i) Aj)).kind).toNat))))=true→(BD (St ((l.getD ((i)-(1)) Aj).name))) x w',Is (cond (((decide ((0)<(i)))&& !(decide (((((l.getD (i) Aj)).kind).toNat)<(((l.getD ((i)-(1)) Aj).kind).toNat))))&&(decide ((((l.getD ((i)-(1)) Aj).kind).toNat:Nat)=((((l.getD (i) Aj)).kind).toNat)))) (St ((l.getD ((i)-(1)) Aj).name)) undef),Is (cond (((decide ((0)<(i)))&& !(decide (((((l.getD (i) Aj)).kind).toNat)<(((l.getD ((i)-(1)) Aj).kind).toNat))))&&(decide ((((l.getD ((i)-(1)) Aj).kind).toNat:Nat)=((((l.getD (i) Aj)).kind).toNat)))) (PQ c 1) undef),Is (cond (((decide ((0)<(i)))&& !(decide (((((l.getD (i) Aj)).kind).toNat)<(((l.getD ((i)-(1)) Aj).kind).toNat))))&&(decide ((((l.getD ((i)-(1)) Aj).kind).toNat:Nat)=((((l.getD (i) Aj)).kind).toNat)))) (St (((l.getD (i) Aj)).name)) undef),Is (cond (((decide ((0)<(i)))&& !(decide (((((l.getD (i) Aj)).kind).toNat)<(((l.getD ((i)-(1)) Aj).kind).toNat))))&&(decide ((((l.getD ((i)-(1)) Aj).kind).toNat:Nat)=((((l.getD (i) Aj)).kind).toNat)))) (.bool (!(Op.bytesLess ((l.getD ((i)-(1)) Aj).name) (((l.getD (i) Aj)).name)))) undef),Is (cond ((decide ((0)<(i)))&& !(decide (((((l.getD (i) Aj)).kind).toNat)<(((l.getD ((i)-(1)) Aj).kind).toNat)))) (.bool ((decide ((((l.getD ((i)-(1)) Aj).kind).toNat:Nat)=((((l.getD (i) Aj)).kind).toNat)))&&(!(Op.bytesLess ((l.getD ((i)-(1)) Aj).name) (((l.getD (i) Aj)).name))))) undef),Is (cond ((decide ((0)<(i)))) (.bool ((decide (((((l.getD (i) Aj)).kind).toNat)<(((l.getD ((i)-(1)) Aj).kind).toNat)))||((decide ((((l.getD ((i)-(1)) Aj).kind).toNat:Nat)=((((l.getD (i) Aj)).kind).toNat)))&&(!(Op.bytesLess ((l.getD ((i)-(1)) Aj).name) (((l.getD (i) Aj)).name)))))) undef),Is (.bool ((decide ((0)<(i)))&&((decide (((((l.getD (i) Aj)).kind).toNat)<(((l.getD ((i)-(1)) Aj).kind).toNat)))||((decide ((((l.getD ((i)-(1)) Aj).kind).toNat:Nat)=((((l.getD (i) Aj)).kind).toNat)))&&(!(Op.bytesLess ((l.getD ((i)-(1)) Aj).name) (((l.getD (i) Aj)).name)))))))] (by kernel_rfl) [37,38,39,40,41,42,43,44,45,46,47,48,49,50,51,52,53,54,55,56,57,58,59,60,61,62,63,64,65,66,67,68,69,70,71] (by kernel_rfl) (by kernel_rfl) (KO ⟨(Stab.may ((fun _ _ _ h k=>PR.keep h k))),(Stab.may (Stab.pcell _)),(Pt ⟨(Stab.may ((fun _ _ _ h k=>PR.keep h k))),(Stab.may (Stab.pcell _)),(Pt ⟨(Stab.may ((fun _ _ _ h k=>PR.keep h k))),(Stab.may (Stab.pcell _)),(Qg trivial)⟩)⟩)⟩) ?a7 ?hQ1006
  case a7=>
   refine⟨?_,?_,?_,?_,?_,?_,?_,?_,?_,?_,?_,?_,?_,?_,?_,?_,?_,?_,?_,?_,?_,?_,?_,?_,?_,?_,?_,?_,?_,?_,?_,?_,?_,?_,?_,trivial⟩
   ·refine Aa rfl fun σ w1 hC h=> ?_
    have r:=(Ad (h 3 (by decide))).trans g
    exact Yk.move r ⟨Ext.refl _,rfl⟩
   ·refine Aa rfl fun σ w1 hC h=> ?_
    have a8:=Ad (h 37 (by decide))
    exact Yk.eqI (a:=(i:Nat)) (b:=(0:Nat)) a8 rfl (Ce _ _ _ _) ⟨Ext.refl _,rfl⟩
   ·refine Aa rfl fun σ w1 hC h=> ?_
    have a9:=Ad (h 38 (by decide))
    exact Yk.move a9 ⟨Ext.refl _,rfl⟩
   ·refine AK 2 true 39 (G:=(decide ((0)<(i)))) rfl rfl (fun x _ (h:x = .bool (decide ((0)<(i))))=>gT h) (fun hu_ _=>A9 hu_) fun hG σ w1 hC h=> ?_
    have s:=(Ad (h 0 (by decide))).trans o
    exact Yk.move s ⟨Ext.refl _,A8 hG⟩
   ·refine AK 2 true 39 (G:=(decide ((0)<(i)))) rfl rfl (fun x _ (h:x = .bool (decide ((0)<(i))))=>gT h) (fun hu_ _=>A9 hu_) fun hG σ w1 hC h=> ?_
    have r:=(Ad (h 3 (by decide))).trans g
    exact Yk.move r ⟨Ext.refl _,A8 hG⟩
   ·refine AK 2 true 39 (G:=(decide ((0)<(i)))) rfl rfl (fun x _ (h:x = .bool (decide ((0)<(i))))=>gT h) (fun hu_ _=>A9 hu_) fun hG σ w1 hC h=> ?_
    have ba:=Ad (h 41 (by decide))
    exact Yk.bin (xv:=NI i) (yv:=NI 1) (mayT ba hG) (vr (NI 1) rfl) rfl (CM _ (i) (1) (by simp only[gA,gB,gC,gD,gE]at hG;omega) (by simp only[gA,gB,gC,gD,gE]at hG;omega)) ⟨Ext.refl _,A8 hG⟩
   ·refine AK 2 true 39 (G:=(decide ((0)<(i)))) rfl rfl (fun x _ (h:x = .bool (decide ((0)<(i))))=>gT h) (fun hu_ _=>E0 hu_) fun hG σ w1 hC h=> ?_
    have bb:=Ad (h 40 (by decide))
    have bc:=Ad (h 42 (by decide))
    exact Yk.atRG DS E2 (by decide) Aj (RG.of (hr.keep (j.trans hC)) (mayT bb hG)) (mayT bc hG) (by simp only[gA,gB,gC,gD,gE]at hG;omega) fun v h=>⟨Ext.refl _,fun _=>h⟩
   ·refine AK 2 true 39 (G:=(decide ((0)<(i)))) rfl rfl (fun x _ (h:x = .bool (decide ((0)<(i))))=>gT h) (fun hu_ _=>E0 hu_) fun hG σ w1 hC h=> ?_
    have bd:(fun x w' =>((decide ((0)<(i))))=true→(fun x w' =>PR (updC (l.getD ((i)-(1)) Aj)) x w') x w') (σ 43) w1:=h 43 (by decide)
    exact Yk.fieldPR (n:=1) Di (bd hG) fun v h=>⟨Ext.refl _,fun _=>PR.pcell (by rw[Ml]at h;exact h)⟩
   ·refine AK 2 true 39 (G:=(decide ((0)<(i)))) rfl rfl (fun x _ (h:x = .bool (decide ((0)<(i))))=>gT h) (fun hu_ _=>A9 hu_) fun hG σ w1 hC h=> ?_
    have be:(fun x w' =>((decide ((0)<(i))))=true→(BD (B8 ((l.getD ((i)-(1)) Aj).kind))) x w') (σ 44) w1:=h 44 (by decide)
    exact Yk.loadC u5 rfl (be hG) ⟨Ext.refl _,A8 hG⟩
   ·refine AK 2 true 39 (G:=(decide ((0)<(i)))) rfl rfl (fun x _ (h:x = .bool (decide ((0)<(i))))=>gT h) (fun hu_ _=>A9 hu_) fun hG σ w1 hC h=> ?_
    have t:σ 4=PQ c 0:=(Ad (h 4 (by decide))).trans rfl
    exact Yk.fieldAt Di t ⟨Ext.refl _,A8 hG⟩
   ·refine AK 2 true 39 (G:=(decide ((0)<(i)))) rfl rfl (fun x _ (h:x = .bool (decide ((0)<(i))))=>gT h) (fun hu_ _=>A9 hu_) fun hG σ w1 hC h=> ?_
    have bf:=Ad (h 46 (by decide))
    exact Yk.cell1 u5 rfl (mayT bf hG) (Ac (eb hC f) (show(updC (l.getD (i) Aj))[0]? =some (B8 (((l.getD (i) Aj)).kind):Value)from D2 (l.getD (i) Aj))) ⟨Ext.refl _,A8 hG⟩
   ·refine AK 2 true 39 (G:=(decide ((0)<(i)))) rfl rfl (fun x _ (h:x = .bool (decide ((0)<(i))))=>gT h) (fun hu_ _=>A9 hu_) fun hG σ w1 hC h=> ?_
    have bg:=Ad (h 45 (by decide))
    have bh:=Ad (h 47 (by decide))
    exact Yk.eqI (a:=((((l.getD ((i)-(1)) Aj).kind).toNat:Nat):Int)) (b:=(((((l.getD (i) Aj)).kind).toNat:Nat):Int)) (mayT bg hG) (mayT bh hG) (Ce _ .u8 (((l.getD ((i)-(1)) Aj).kind).toNat) ((((l.getD (i) Aj)).kind).toNat)) ⟨Ext.refl _,A8 hG⟩
   ·refine AK 2 true 39 (G:=(decide ((0)<(i)))) rfl rfl (fun x _ (h:x = .bool (decide ((0)<(i))))=>gT h) (fun hu_ _=>A9 hu_) fun hG σ w1 hC h=> ?_
    have bi:=Ad (h 48 (by decide))
    exact Yk.move (mayT bi hG) ⟨Ext.refl _,A8 hG⟩
   ·refine AK 12 false 49 (G:=(decide ((0)<(i)))&& !(decide (((((l.getD (i) Aj)).kind).toNat)<(((l.getD ((i)-(1)) Aj).kind).toNat)))) rfl rfl (fun x _ (h:x=cond ((decide ((0)<(i)))) (.bool (decide (((((l.getD (i) Aj)).kind).toNat)<(((l.getD ((i)-(1)) Aj).kind).toNat)))) undef)=>Bk h) (fun hu_ _=>A9 hu_) fun hG σ w1 hC h=> ?_
    have s:=(Ad (h 0 (by decide))).trans o
    exact Yk.move s ⟨Ext.refl _,A8 hG⟩
   ·refine AK 12 false 49 (G:=(decide ((0)<(i)))&& !(decide (((((l.getD (i) Aj)).kind).toNat)<(((l.getD ((i)-(1)) Aj).kind).toNat)))) rfl rfl (fun x _ (h:x=cond ((decide ((0)<(i)))) (.bool (decide (((((l.getD (i) Aj)).kind).toNat)<(((l.getD ((i)-(1)) Aj).kind).toNat)))) undef)=>Bk h) (fun hu_ _=>A9 hu_) fun hG σ w1 hC h=> ?_
    have r:=(Ad (h 3 (by decide))).trans g
    exact Yk.move r ⟨Ext.refl _,A8 hG⟩
   ·refine AK 12 false 49 (G:=(decide ((0)<(i)))&& !(decide (((((l.getD (i) Aj)).kind).toNat)<(((l.getD ((i)-(1)) Aj).kind).toNat)))) rfl rfl (fun x _ (h:x=cond ((decide ((0)<(i)))) (.bool (decide (((((l.getD (i) Aj)).kind).toNat)<(((l.getD ((i)-(1)) Aj).kind).toNat)))) undef)=>Bk h) (fun hu_ _=>A9 hu_) fun hG σ w1 hC h=> ?_
    have bj:=Ad (h 51 (by decide))
    exact Yk.bin (xv:=NI i) (yv:=NI 1) (mayT bj hG) (vr (NI 1) rfl) rfl (CM _ (i) (1) (by simp only[gA,gB,gC,gD,gE]at hG;omega) (by simp only[gA,gB,gC,gD,gE]at hG;omega)) ⟨Ext.refl _,A8 hG⟩
   ·refine AK 12 false 49 (G:=(decide ((0)<(i)))&& !(decide (((((l.getD (i) Aj)).kind).toNat)<(((l.getD ((i)-(1)) Aj).kind).toNat)))) rfl rfl (fun x _ (h:x=cond ((decide ((0)<(i)))) (.bool (decide (((((l.getD (i) Aj)).kind).toNat)<(((l.getD ((i)-(1)) Aj).kind).toNat)))) undef)=>Bk h) (fun hu_ _=>E0 hu_) fun hG σ w1 hC h=> ?_
    have bk:=Ad (h 50 (by decide))
    have bm:=Ad (h 52 (by decide))
    exact Yk.atRG DS E2 (by decide) Aj (RG.of (hr.keep (j.trans hC)) (mayT bk hG)) (mayT bm hG) (by simp only[gA,gB,gC,gD,gE]at hG;omega) fun v h=>⟨Ext.refl _,fun _=>h⟩
   ·refine AK 12 false 49 (G:=(decide ((0)<(i)))&& !(decide (((((l.getD (i) Aj)).kind).toNat)<(((l.getD ((i)-(1)) Aj).kind).toNat)))) rfl rfl (fun x _ (h:x=cond ((decide ((0)<(i)))) (.bool (decide (((((l.getD (i) Aj)).kind).toNat)<(((l.getD ((i)-(1)) Aj).kind).toNat)))) undef)=>Bk h) (fun hu_ _=>E0 hu_) fun hG σ w1 hC h=> ?_
    have bn:(fun x w' =>((decide ((0)<(i)))&& !(decide (((((l.getD (i) Aj)).kind).toNat)<(((l.getD ((i)-(1)) Aj).kind).toNat))))=true→(fun x w' =>PR (updC (l.getD ((i)-(1)) Aj)) x w') x w') (σ 53) w1:=h 53 (by decide)
    exact Yk.fieldPR (n:=1) Di (bn hG) fun v h=>⟨Ext.refl _,fun _=>PR.pcell (by rw[Ml]at h;exact h)⟩
   ·refine AK 12 false 49 (G:=(decide ((0)<(i)))&& !(decide (((((l.getD (i) Aj)).kind).toNat)<(((l.getD ((i)-(1)) Aj).kind).toNat)))) rfl rfl (fun x _ (h:x=cond ((decide ((0)<(i)))) (.bool (decide (((((l.getD (i) Aj)).kind).toNat)<(((l.getD ((i)-(1)) Aj).kind).toNat)))) undef)=>Bk h) (fun hu_ _=>A9 hu_) fun hG σ w1 hC h=> ?_
    have bo:(fun x w' =>((decide ((0)<(i)))&& !(decide (((((l.getD (i) Aj)).kind).toNat)<(((l.getD ((i)-(1)) Aj).kind).toNat))))=true→(BD (B8 ((l.getD ((i)-(1)) Aj).kind))) x w') (σ 54) w1:=h 54 (by decide)
    exact Yk.loadC u5 rfl (bo hG) ⟨Ext.refl _,A8 hG⟩
   ·refine AK 12 false 49 (G:=(decide ((0)<(i)))&& !(decide (((((l.getD (i) Aj)).kind).toNat)<(((l.getD ((i)-(1)) Aj).kind).toNat)))) rfl rfl (fun x _ (h:x=cond ((decide ((0)<(i)))) (.bool (decide (((((l.getD (i) Aj)).kind).toNat)<(((l.getD ((i)-(1)) Aj).kind).toNat)))) undef)=>Bk h) (fun hu_ _=>A9 hu_) fun hG σ w1 hC h=> ?_
    have t:σ 4=PQ c 0:=(Ad (h 4 (by decide))).trans rfl
    exact Yk.fieldAt Di t ⟨Ext.refl _,A8 hG⟩
   ·refine AK 12 false 49 (G:=(decide ((0)<(i)))&& !(decide (((((l.getD (i) Aj)).kind).toNat)<(((l.getD ((i)-(1)) Aj).kind).toNat)))) rfl rfl (fun x _ (h:x=cond ((decide ((0)<(i)))) (.bool (decide (((((l.getD (i) Aj)).kind).toNat)<(((l.getD ((i)-(1)) Aj).kind).toNat)))) undef)=>Bk h) (fun hu_ _=>A9 hu_) fun hG σ w1 hC h=> ?_
    have bp:=Ad (h 56 (by decide))
    exact Yk.cell1 u5 rfl (mayT bp hG) (Ac (eb hC f) (show(updC (l.getD (i) Aj))[0]? =some (B8 (((l.getD (i) Aj)).kind):Value)from D2 (l.getD (i) Aj))) ⟨Ext.refl _,A8 hG⟩
   ·refine AK 12 false 49 (G:=(decide ((0)<(i)))&& !(decide (((((l.getD (i) Aj)).kind).toNat)<(((l.getD ((i)-(1)) Aj).kind).toNat)))) rfl rfl (fun x _ (h:x=cond ((decide ((0)<(i)))) (.bool (decide (((((l.getD (i) Aj)).kind).toNat)<(((l.getD ((i)-(1)) Aj).kind).toNat)))) undef)=>Bk h) (fun hu_ _=>A9 hu_) fun hG σ w1 hC h=> ?_
    have bq:=Ad (h 55 (by decide))
    have br:=Ad (h 57 (by decide))
    exact Yk.eqI (a:=((((l.getD ((i)-(1)) Aj).kind).toNat:Nat):Int)) (b:=(((((l.getD (i) Aj)).kind).toNat:Nat):Int)) (mayT bq hG) (mayT br hG) (k_eql _ .u8 (((l.getD ((i)-(1)) Aj).kind).toNat) ((((l.getD (i) Aj)).kind).toNat)) ⟨Ext.refl _,A8 hG⟩
   ·refine AK 12 false 49 (G:=(decide ((0)<(i)))&& !(decide (((((l.getD (i) Aj)).kind).toNat)<(((l.getD ((i)-(1)) Aj).kind).toNat)))) rfl rfl (fun x _ (h:x=cond ((decide ((0)<(i)))) (.bool (decide (((((l.getD (i) Aj)).kind).toNat)<(((l.getD ((i)-(1)) Aj).kind).toNat)))) undef)=>Bk h) (fun hu_ _=>A9 hu_) fun hG σ w1 hC h=> ?_
    have bs:=Ad (h 58 (by decide))
    exact Yk.move (mayT bs hG) ⟨Ext.refl _,A8 hG⟩
   ·refine AK 22 true 59 (G:=((decide ((0)<(i)))&& !(decide (((((l.getD (i) Aj)).kind).toNat)<(((l.getD ((i)-(1)) Aj).kind).toNat))))&&(decide ((((l.getD ((i)-(1)) Aj).kind).toNat:Nat)=((((l.getD (i) Aj)).kind).toNat)))) rfl rfl (fun x _ (h:x=cond ((decide ((0)<(i)))&& !(decide (((((l.getD (i) Aj)).kind).toNat)<(((l.getD ((i)-(1)) Aj).kind).toNat)))) (.bool (decide ((((l.getD ((i)-(1)) Aj).kind).toNat:Nat)=((((l.getD (i) Aj)).kind).toNat)))) undef)=>geT h) (fun hu_ _=>A9 hu_) fun hG σ w1 hC h=> ?_
    have s:=(Ad (h 0 (by decide))).trans o
    exact Yk.move s ⟨Ext.refl _,A8 hG⟩
   ·refine AK 22 true 59 (G:=((decide ((0)<(i)))&& !(decide (((((l.getD (i) Aj)).kind).toNat)<(((l.getD ((i)-(1)) Aj).kind).toNat))))&&(decide ((((l.getD ((i)-(1)) Aj).kind).toNat:Nat)=((((l.getD (i) Aj)).kind).toNat)))) rfl rfl (fun x _ (h:x=cond ((decide ((0)<(i)))&& !(decide (((((l.getD (i) Aj)).kind).toNat)<(((l.getD ((i)-(1)) Aj).kind).toNat)))) (.bool (decide ((((l.getD ((i)-(1)) Aj).kind).toNat:Nat)=((((l.getD (i) Aj)).kind).toNat)))) undef)=>geT h) (fun hu_ _=>A9 hu_) fun hG σ w1 hC h=> ?_
    have r:=(Ad (h 3 (by decide))).trans g
    exact Yk.move r ⟨Ext.refl _,A8 hG⟩
   ·refine AK 22 true 59 (G:=((decide ((0)<(i)))&& !(decide (((((l.getD (i) Aj)).kind).toNat)<(((l.getD ((i)-(1)) Aj).kind).toNat))))&&(decide ((((l.getD ((i)-(1)) Aj).kind).toNat:Nat)=((((l.getD (i) Aj)).kind).toNat)))) rfl rfl (fun x _ (h:x=cond ((decide ((0)<(i)))&& !(decide (((((l.getD (i) Aj)).kind).toNat)<(((l.getD ((i)-(1)) Aj).kind).toNat)))) (.bool (decide ((((l.getD ((i)-(1)) Aj).kind).toNat:Nat)=((((l.getD (i) Aj)).kind).toNat)))) undef)=>geT h) (fun hu_ _=>A9 hu_) fun hG σ w1 hC h=> ?_
    have bt:=Ad (h 61 (by decide))
    exact Yk.bin (xv:=NI i) (yv:=NI 1) (mayT bt hG) (vr (NI 1) rfl) rfl (CM _ (i) (1) (by simp only[gA,gB,gC,gD,gE]at hG;omega) (by simp only[gA,gB,gC,gD,gE]at hG;omega)) ⟨Ext.refl _,A8 hG⟩
   ·refine AK 22 true 59 (G:=((decide ((0)<(i)))&& !(decide (((((l.getD (i) Aj)).kind).toNat)<(((l.getD ((i)-(1)) Aj).kind).toNat))))&&(decide ((((l.getD ((i)-(1)) Aj).kind).toNat:Nat)=((((l.getD (i) Aj)).kind).toNat)))) rfl rfl (fun x _ (h:x=cond ((decide ((0)<(i)))&& !(decide (((((l.getD (i) Aj)).kind).toNat)<(((l.getD ((i)-(1)) Aj).kind).toNat)))) (.bool (decide ((((l.getD ((i)-(1)) Aj).kind).toNat:Nat)=((((l.getD (i) Aj)).kind).toNat)))) undef)=>geT h) (fun hu_ _=>E0 hu_) fun hG σ w1 hC h=> ?_
    have bu:=Ad (h 60 (by decide))
    have bv:=Ad (h 62 (by decide))
    exact Yk.atRG DS E2 (by decide) Aj (RG.of (hr.keep (j.trans hC)) (mayT bu hG)) (mayT bv hG) (by simp only[gA,gB,gC,gD,gE]at hG;omega) fun v h=>⟨Ext.refl _,fun _=>h⟩
   ·refine AK 22 true 59 (G:=((decide ((0)<(i)))&& !(decide (((((l.getD (i) Aj)).kind).toNat)<(((l.getD ((i)-(1)) Aj).kind).toNat))))&&(decide ((((l.getD ((i)-(1)) Aj).kind).toNat:Nat)=((((l.getD (i) Aj)).kind).toNat)))) rfl rfl (fun x _ (h:x=cond ((decide ((0)<(i)))&& !(decide (((((l.getD (i) Aj)).kind).toNat)<(((l.getD ((i)-(1)) Aj).kind).toNat)))) (.bool (decide ((((l.getD ((i)-(1)) Aj).kind).toNat:Nat)=((((l.getD (i) Aj)).kind).toNat)))) undef)=>geT h) (fun hu_ _=>E0 hu_) fun hG σ w1 hC h=> ?_
    have bw:(fun x w' =>(((decide ((0)<(i)))&& !(decide (((((l.getD (i) Aj)).kind).toNat)<(((l.getD ((i)-(1)) Aj).kind).toNat))))&&(decide ((((l.getD ((i)-(1)) Aj).kind).toNat:Nat)=((((l.getD (i) Aj)).kind).toNat))))=true→(fun x w' =>PR (updC (l.getD ((i)-(1)) Aj)) x w') x w') (σ 63) w1:=h 63 (by decide)
    exact Yk.fieldPR (n:=1) FG (bw hG) fun v h=>⟨Ext.refl _,fun _=>PR.pcell (by rw[Pw]at h;exact h)⟩
   ·refine AK 22 true 59 (G:=((decide ((0)<(i)))&& !(decide (((((l.getD (i) Aj)).kind).toNat)<(((l.getD ((i)-(1)) Aj).kind).toNat))))&&(decide ((((l.getD ((i)-(1)) Aj).kind).toNat:Nat)=((((l.getD (i) Aj)).kind).toNat)))) rfl rfl (fun x _ (h:x=cond ((decide ((0)<(i)))&& !(decide (((((l.getD (i) Aj)).kind).toNat)<(((l.getD ((i)-(1)) Aj).kind).toNat)))) (.bool (decide ((((l.getD ((i)-(1)) Aj).kind).toNat:Nat)=((((l.getD (i) Aj)).kind).toNat)))) undef)=>geT h) (fun hu_ _=>A9 hu_) fun hG σ w1 hC h=> ?_
    have bx:(fun x w' =>(((decide ((0)<(i)))&& !(decide (((((l.getD (i) Aj)).kind).toNat)<(((l.getD ((i)-(1)) Aj).kind).toNat))))&&(decide ((((l.getD ((i)-(1)) Aj).kind).toNat:Nat)=((((l.getD (i) Aj)).kind).toNat))))=true→(BD (St ((l.getD ((i)-(1)) Aj).name))) x w') (σ 64) w1:=h 64 (by decide)
    exact Yk.loadC Dx rfl (bx hG) ⟨Ext.refl _,A8 hG⟩
   ·refine AK 22 true 59 (G:=((decide ((0)<(i)))&& !(decide (((((l.getD (i) Aj)).kind).toNat)<(((l.getD ((i)-(1)) Aj).kind).toNat))))&&(decide ((((l.getD ((i)-(1)) Aj).kind).toNat:Nat)=((((l.getD (i) Aj)).kind).toNat)))) rfl rfl (fun x _ (h:x=cond ((decide ((0)<(i)))&& !(decide (((((l.getD (i) Aj)).kind).toNat)<(((l.getD ((i)-(1)) Aj).kind).toNat)))) (.bool (decide ((((l.getD ((i)-(1)) Aj).kind).toNat:Nat)=((((l.getD (i) Aj)).kind).toNat)))) undef)=>geT h) (fun hu_ _=>A9 hu_) fun hG σ w1 hC h=> ?_
    have t:σ 4=PQ c 0:=(Ad (h 4 (by decide))).trans rfl
    exact Yk.fieldAt FG t ⟨Ext.refl _,A8 hG⟩
   ·refine AK 22 true 59 (G:=((decide ((0)<(i)))&& !(decide (((((l.getD (i) Aj)).kind).toNat)<(((l.getD ((i)-(1)) Aj).kind).toNat))))&&(decide ((((l.getD ((i)-(1)) Aj).kind).toNat:Nat)=((((l.getD (i) Aj)).kind).toNat)))) rfl rfl (fun x _ (h:x=cond ((decide ((0)<(i)))&& !(decide (((((l.getD (i) Aj)).kind).toNat)<(((l.getD ((i)-(1)) Aj).kind).toNat)))) (.bool (decide ((((l.getD ((i)-(1)) Aj).kind).toNat:Nat)=((((l.getD (i) Aj)).kind).toNat)))) undef)=>geT h) (fun hu_ _=>A9 hu_) fun hG σ w1 hC h=> ?_
    have bz:=Ad (h 66 (by decide))
    exact Yk.cell1 Dx rfl (mayT bz hG) (Ac (eb hC f) (show(updC (l.getD (i) Aj))[1]? =some (St (((l.getD (i) Aj)).name):Value)from Fg (l.getD (i) Aj))) ⟨Ext.refl _,A8 hG⟩
   ·refine AK 22 true 59 (G:=((decide ((0)<(i)))&& !(decide (((((l.getD (i) Aj)).kind).toNat)<(((l.getD ((i)-(1)) Aj).kind).toNat))))&&(decide ((((l.getD ((i)-(1)) Aj).kind).toNat:Nat)=((((l.getD (i) Aj)).kind).toNat)))) rfl rfl (fun x _ (h:x=cond ((decide ((0)<(i)))&& !(decide (((((l.getD (i) Aj)).kind).toNat)<(((l.getD ((i)-(1)) Aj).kind).toNat)))) (.bool (decide ((((l.getD ((i)-(1)) Aj).kind).toNat:Nat)=((((l.getD (i) Aj)).kind).toNat)))) undef)=>geT h) (fun hu_ _=>A9 hu_) fun hG σ w1 hC h=> ?_
    have b0:=Ad (h 65 (by decide))
    have b1:=Ad (h 67 (by decide))
    exact Yk.ltSt (l:=(l.getD ((i)-(1)) Aj).name) (m:=((l.getD (i) Aj)).name) (.inr rfl) (mayT b0 hG) (mayT b1 hG) (!(Op.bytesLess ((l.getD ((i)-(1)) Aj).name) (((l.getD (i) Aj)).name))) rfl ⟨Ext.refl _,A8 hG⟩
   ·refine AK 12 false 49 (G:=(decide ((0)<(i)))&& !(decide (((((l.getD (i) Aj)).kind).toNat)<(((l.getD ((i)-(1)) Aj).kind).toNat)))) rfl rfl (fun x _ (h:x=cond ((decide ((0)<(i)))) (.bool (decide (((((l.getD (i) Aj)).kind).toNat)<(((l.getD ((i)-(1)) Aj).kind).toNat)))) undef)=>Bk h) (fun hu_ _=>A9 hu_) fun hG σ w1 hC h=> ?_
    have b2:=Ad (h 59 (by decide))
    have b3:=Ad (h 68 (by decide))
    exact Yk.pickAnd (mayT b2 hG) (fun hA=>(mayT b3 (BF hG hA))) (vr (.bool (false)) rfl) ⟨Ext.refl _,A8 hG⟩
   ·refine AK 2 true 39 (G:=(decide ((0)<(i)))) rfl rfl (fun x _ (h:x = .bool (decide ((0)<(i))))=>gT h) (fun hu_ _=>A9 hu_) fun hG σ w1 hC h=> ?_
    have b4:=Ad (h 49 (by decide))
    have b5:=Ad (h 69 (by decide))
    exact Yk.pickOr (mayT b4 hG) (vr (.bool (true)) rfl) (fun hA=>(mayT b5 (BF hG (not_i hA)))) ⟨Ext.refl _,A8 hG⟩
   ·refine Aa rfl fun σ w1 hC h=> ?_
    have b6:=Ad (h 39 (by decide))
    have b7:=Ad (h 70 (by decide))
    exact Yk.pickAnd b6 (fun hA=>(mayT b7 hA)) (vr (.bool (false)) rfl) ⟨Ext.refl _,rfl⟩
  intro b8 c0 ak he hf
  obtain⟨-,-,-,-,-,-,-,-,-,-,-,-,-,-,-,-,-,-,-,-,-,-,-,-,-,-,-,-,-,-,-,-,-,-,k71,-⟩:=hf
  obtain⟨o,T3,T4,p,q,g,-⟩:=he.hold [(0,_),(3,_),(4,PQ c 0),(5,_),(6,_),(7,_)] ⟨o,g,rfl,p,q,g,trivial⟩ rfl
  clear he
  have hE:=hE.trans ak
  have j:=j.trans ak
  have b9:b8 71 = .bool ((decide ((0)<(i)))&&((decide (((((l.getD (i) Aj)).kind).toNat)<(((l.getD ((i)-(1)) Aj).kind).toNat)))||((decide ((((l.getD ((i)-(1)) Aj).kind).toNat:Nat)=((((l.getD (i) Aj)).kind).toNat)))&&(!(Op.bytesLess ((l.getD ((i)-(1)) Aj).name) (((l.getD (i) Aj)).name)))))):=k71
  clear k71
  refine tN (a6 _ _ ?_)
  refine A0 ((decide ((0)<(i)))&&((decide (((((l.getD (i) Aj)).kind).toNat)<(((l.getD ((i)-(1)) Aj).kind).toNat)))||((decide ((((l.getD ((i)-(1)) Aj).kind).toNat:Nat)=((((l.getD (i) Aj)).kind).toNat)))&&(!(Op.bytesLess ((l.getD ((i)-(1)) Aj).name) (((l.getD (i) Aj)).name)))))) b9 (fun ac=> ?_) (fun ac=> ?_)
  ·have hq:=P7 ac
   refine sk fun c1 ca=>(wt (oA rfl (oZ (tN (ca _ _ (Ap (AC (As (As (AC (As (Ao (fn:=Tryd.f57) _ rfl [.bool (false)] (.bool (false)) rfl ⟨rfl,trivial⟩ ?_))))))))))))
   exact⟨by rw[MH hlt (of_decide_eq_true hq.1) hq.2],hE⟩
  have hord:0<i→Hc (l.getD (i-1) Aj) (l.getD i Aj)=false:=fun h0=>P8 ac (decide_eq_true h0)
  refine Ak (bN (tN (ax _ _ (wt (oS rfl (Yk.bin (xv:=NI i) (yv:=NI 1) g rfl rfl (AN _ _ _ (by omega)) (oM rfl (Be [(0,v),(3,NI i),(4,PQ c 0),(5,v),(6,NI l.length),(7,NI ((i)+(1)))] ⟨o,T3,T4,p,q,rfl,trivial⟩ fun cb ⟨o,T3,T4,p,q,g,_⟩=>(tN (And.intro ⟨i+1,o,p,q,g,(hr.keep j),hE,by omega,Kn hn hbad hord,trivial⟩ ?_))))))))))
  show l.length-(intOf (cb 7)).toNat<l.length-(intOf (ar 7)).toNat
  rw[g,q7]
  simp only[intOf,Int.toNat_natCast];omega
 refine A6 (Aw (Aw (AM (tN (ap _ _ (sk fun c2 cc=>(wt (oM rfl (oS rfl (Yk.lenRG DS (RG.of hr o) (oS rfl (Yk.eqI (a:=(l.length:Nat)) (b:=(128:Nat)) rfl rfl (Cl _ _ _ _) (oA rfl (oZ (tN (cc _ _ (Ap (Ao (fn:=Tryd.f57) _ rfl [.bool (decide ((l.length)≤(128)))] (.bool (decide ((l.length)≤(128)))) rfl ⟨rfl,trivial⟩ ?_))))))))))))))))))
 exact⟨by rw[MF (show l.length≤i by omega) hn],hE⟩

theorem wset_any(w:World)(v:Value)(l:List Bs)(hr:RG 32 Lib.byteCells w v l)(hll:l.length<9223372036854775807):
  Calls Tryd.prog 58 #[v] w fun e w' =>e = .returned (.bool (CF l))∧Ext w w' :=by
 refine calls_of_wpF (args:= [v]) Tryd.func58 rfl 22 rfl (Nat.le_of_ble_eq_true rfl) ?_
 intro k hb
 have c:k 0=(v:Value):=hb.get 0
 clear hb
 have hE:=Ext.refl w
 refine sk fun r m=>(wt (oA rfl (oZ (tN (m _ _ (sk fun s n=>(wt (oM rfl (oS rfl (Yk.lenRG BT (RG.of hr c) (oS rfl (Yk.eqI (a:=(l.length:Nat)) (b:=(65536:Nat)) rfl rfl (Cl _ _ _ _) (oM rfl (Ab (v) rfl rfl (gT (vr (.bool (decide ((l.length)≤(65536)))) rfl)) (fun hG3=>Yk.move c ⟨rfl,rfl⟩) (AP (.bool (G9 (l))) rfl rfl (gT (vr (.bool (decide ((l.length)≤(65536)))) rfl)) (fun hG4=>Yk.callA1 MI (mayT (vr (cond ((decide ((l.length)≤(65536)))) (v) undef) rfl) hG4) ((ME _ v (l) hr (by omega)).mono (by rintro e o ⟨rfl,hx⟩;exact⟨_,rfl,rfl,hx⟩))) fun p j=> ?_)))))))))))))))
 have hr:=hr.keep j
 have hE:=hE.trans j
 refine oS rfl (Yk.pickAndN (vr (.bool (decide ((l.length)≤(65536)))) rfl) (fun hA=>(mayT (vr (cond ((decide ((l.length)≤(65536)))) (.bool (G9 (l))) undef) rfl) hA)) (vr (.bool (false)) rfl) fun bb8 hbb9=>(oM rfl (Ab (v) rfl rfl (gT (vr (.bool (bb8)) rfl)) (fun hG10=>Yk.move c ⟨rfl,rfl⟩) (Ab (NI l.length) rfl rfl (gT (vr (.bool (bb8)) rfl)) (fun hG11=>Yk.lenRG BT (RG.of hr (mayT (vr (cond (bb8) (v) undef) rfl) hG11)) ⟨rfl,rfl⟩) (Ab (.bool (decide ((l.length:Nat)=(0)))) rfl rfl (gT (vr (.bool (bb8)) rfl)) (fun hG12=>Yk.eqI (a:=((l.length:Nat):Int)) (b:=((0:Nat):Int)) (mayT (vr (cond (bb8) (NI l.length) undef) rfl) hG12) (vr (NI 0) rfl) (k_eql _ .i64 (l.length) (0)) ⟨rfl,rfl⟩) (Ab (.bool (decide ((l.length:Nat)=(0)))) rfl rfl (gT (vr (.bool (bb8)) rfl)) (fun hG13=>Yk.move (mayT (vr (cond (bb8) (.bool (decide ((l.length:Nat)=(0)))) undef) rfl) hG13) ⟨rfl,rfl⟩) (Ab (v) rfl rfl (Bk (vr (cond (bb8) (.bool (decide ((l.length:Nat)=(0)))) undef) rfl)) (fun hG14=>Yk.move c ⟨rfl,rfl⟩) ?_)))))))
 have q:(bb8&& !(decide ((l.length:Nat)=(0))))=true→(Lib.byteCells (l.getD (0) ([]:List UInt8))).length=32:=fun hG15=>(RG.elem hr ([]:List UInt8) (by simp only[hbb9,gA,gB,gC,gD,gE]at hG15;omega))
 refine Mv (fun g=>PR (Lib.byteCells (l.getD (0) ([]:List UInt8))) g p) rfl rfl (Bk (vr (cond (bb8) (.bool (decide ((l.length:Nat)=(0)))) undef) rfl)) (fun hG15=>Yk.atRG BT CV (by decide) ([]:List UInt8) (RG.of hr (mayT (vr (cond (bb8&& !(decide ((l.length:Nat)=(0)))) (v) undef) rfl) hG15)) (vr (NI 0) rfl) (by simp only[hbb9,gA,gB,gC,gD,gE]at hG15;omega) fun _ h=>⟨h,rfl⟩) fun g f=>(Ab (AB (l.getD (0) ([]:List UInt8))) rfl rfl (Bk (vr (cond (bb8) (.bool (decide ((l.length:Nat)=(0)))) undef) rfl)) (fun hG19=>Yk.loadPR (PR.of (f hG19) (vr g rfl)) OA rfl (by rw[(q hG19)];exact Mx) ⟨rfl,rfl⟩) (AP (.bool (decide (l.getD 0 []=List.replicate 32 0))) rfl rfl (Bk (vr (cond (bb8) (.bool (decide ((l.length:Nat)=(0)))) undef) rfl)) (fun hG20=>Yk.callA1 Hd (mayT (vr (cond (bb8&& !(decide ((l.length:Nat)=(0)))) (AB (l.getD (0) ([]:List UInt8))) undef) rfl) hG20) ((Dc _ (⟨l.getD 0 [],Bp (RG.elem hr [] (by simp only[hbb9,gA,gB,gC,gD,gE]at hG20;omega))⟩:BZ)).mono (by rintro e o ⟨rfl,hx⟩;exact⟨_,rfl,rfl,hx⟩))) fun t i=> ?_))
 have f:=fun(e_:(bb8&& !(decide ((l.length:Nat)=(0))))=true)=>(PR.keep (f e_) i)
 have hr:=hr.keep i
 have hE:=hE.trans i
 refine Ab (.bool (!(decide (l.getD 0 []=List.replicate 32 0)))) rfl rfl (Bk (vr (cond (bb8) (.bool (decide ((l.length:Nat)=(0)))) undef) rfl)) (fun hG24=>Yk.notB (mayT (vr (cond (bb8&& !(decide ((l.length:Nat)=(0)))) (.bool (decide (l.getD 0 []=List.replicate 32 0))) undef) rfl) hG24) ⟨rfl,rfl⟩) (A7 ((decide ((l.length:Nat)=(0)))||(!(decide (l.getD 0 []=List.replicate 32 0)))) rfl rfl (gT (vr (.bool (bb8)) rfl)) (fun hG25=>Yk.pickOr (mayT (vr (cond (bb8) (.bool (decide ((l.length:Nat)=(0)))) undef) rfl) hG25) (vr (.bool (true)) rfl) (fun hA=>(mayT (vr (cond (bb8&& !(decide ((l.length:Nat)=(0)))) (.bool (!(decide (l.getD 0 []=List.replicate 32 0)))) undef) rfl) (BF hG25 (not_i hA)))) ⟨rfl,rfl⟩) fun bb26 hbb27=>(oS rfl (Yk.pickAndN (vr (.bool (bb8)) rfl) (fun hA=>(mayT (vr (cond (bb8) (.bool (bb26)) undef) rfl) hA)) (vr (.bool (false)) rfl) fun bb28 hbb29=>(oA rfl (oZ ?_)))))
 clear f
 refine tN (n _ _ (Ap (Ao (fn:=Tryd.f58) _ rfl [.bool (bb28)] (.bool (bb28)) rfl ⟨rfl,trivial⟩ ?_)))
 subst hbb9 hbb27 hbb29
 exact⟨rfl,hE⟩

theorem E3(w:World)(n m:Int):
  Calls Tryd.prog 55 #[.int .i64 n, .int .i64 m] w fun e w' =>e = .returned (.bool (boundB n m))∧Ext w w' :=by
 refine calls_of_wpF (args:= [.int .i64 (n:Int), .int .i64 (m:Int)]) Tryd.func55 rfl 12 rfl (Nat.le_of_ble_eq_true rfl) ?_
 intro a hb
 have b:a 0=(.int .i64 (n:Int):Value):=hb.get 0
 have c:a 1=(.int .i64 (m:Int):Value):=hb.get 1
 clear hb
 have hE:=Ext.refl w
 refine sk fun h f=>(wt (oA rfl (oZ (tN (f _ _ (sk fun i g=>(wt (oM rfl (oS rfl (Yk.eqI b (vr (NI 0) rfl) (Ld _ .i64 (n:Int) ((0:Nat):Int)) (oM rfl (Ab (.int .i64 (n:Int)) rfl rfl (gT (vr (.bool (decide (((0:Nat):Int)≤(n:Int)))) rfl)) (fun hG3=>Yk.move b ⟨rfl,rfl⟩) (Ab (.int .i64 (m:Int)) rfl rfl (gT (vr (.bool (decide (((0:Nat):Int)≤(n:Int)))) rfl)) (fun hG4=>Yk.move c ⟨rfl,rfl⟩) (Ab (.bool (decide ((n:Int)≤(m:Int)))) rfl rfl (gT (vr (.bool (decide (((0:Nat):Int)≤(n:Int)))) rfl)) (fun hG5=>Yk.eqI (mayT (vr (cond ((decide (((0:Nat):Int)≤(n:Int)))) (.int .i64 (n:Int)) undef) rfl) hG5) (mayT (vr (cond ((decide (((0:Nat):Int)≤(n:Int)))) (.int .i64 (m:Int)) undef) rfl) hG5) (P0 _ .i64 (n:Int) (m:Int)) ⟨rfl,rfl⟩) (oS rfl (Yk.pickAndN (vr (.bool (decide (((0:Nat):Int)≤(n:Int)))) rfl) (fun hA=>(mayT (vr (cond ((decide (((0:Nat):Int)≤(n:Int)))) (.bool (decide ((n:Int)≤(m:Int)))) undef) rfl) hA)) (vr (.bool (false)) rfl) fun bb6 hbb7=>(oA rfl (oZ ?_))))))))))))))))))
 refine tN (g _ _ (Ap (Ao (fn:=Tryd.f55) _ rfl [.bool (bb6)] (.bool (bb6)) rfl ⟨rfl,trivial⟩ ?_)))
 subst hbb7
 exact⟨rfl,hE⟩
open Go.RowKit
theorem Yp.mono'{P:Program}{K K' :Value→World→Prop}{J J' :List PanicEntry→World→Prop}{r:Result Next}(h:Yp P K J r)(hm:∀v w,K v w→K' v w)(hj:∀c w,J c w→J' c w):Yp P K' J' r:=by
  match r,h with
  | .ok (.value v) w',h=>exact hm _ _ h
  | .ok .skip w',h=>exact hm _ _ h
  | .halt (.panic v) w',h=>exact hj _ _ h
  | .ok (.enter f args) w',h=>
    refine Calls.mono h fun e w'' hx=> ?_
    match e,hx with
    | .returned v,hx=>exact hm _ _ hx
    | .panicked ch,hx=>exact hj _ _ hx
open Go.RowKit
section
variable {P : Program} {l : List Oper} {kill : Nat → List Nat} {C : Nat → World → Prop} {R : Nat → World → World → Prop} {Φ : Nat → Bd} {a0 : Act}
theorem N5(g:Fz l a0.tmps.size)(hkl:Cq l kill=true){L:Nat}{oL:Oper}(hn:Ef l L=true)(hoL:l[L]? =some oL)(hgL:oL.guard=none) 
    (hC:∀n m,n<l.length→m<l.length→n≠m→((AX l []).getD n 0).testBit m=false→∀w w',C m w→R n w w' →C m w') (hΦ:∀n i,n<l.length→i<l.length→i∉kill n→i≠n→((AX l []).getD i 0).testBit n=false→∀v w w',Φ i v w→R n w w' →Φ i v w') (hRr:∀n o w,l[n]? =some o→o.guard.isSome=true→R n w w) (hs:∀i o,l[i]? =some o→i≠L→EE P l C R Φ a0.tmps i o) {Q:Exit→Act→World→Prop}
    (hQ:∀listed a' w',(∀i,i<l.length→i≠L→On listed i)→¬On listed L→Inv l kill C (fun _ _=>True) Φ a0 listed a' w' →Yp P (fun v w'' =>Q .normal (a'.put oL.dst v) w'') (fun ch w'' =>Q (.panic ch) a' w'') ((execOp a'.eval oL).run P w')):
    ∀(fuel:Nat) (listed:Array Bool) (a:Act) (w:World),(listed.toList.filter (!·)).length=fuel→¬On listed L→Inv l kill C (fun _ _=>True) Φ a0 listed a w→wpAny P .any l.toArray Q fuel listed a w:=by
  obtain⟨hlen,hb⟩:=EW hn
  have rdy:∀(listed:Array Bool),listed.size=l.length→(∀i,i<l.length→On listed i)→Region.ready .any l.toArray listed= []:=by
    intro listed hsz hon
    cases hr:Region.ready .any l.toArray listed with
    | nil=>rfl
    | cons x xs=>
      exfalso
      have hm:x∈Region.ready .any l.toArray listed:=by rw[hr];simp
      obtain⟨h1,o,ho,_⟩:=mem_ready.1 hm
      have hx:x<l.length:=by simpa using (Array.getElem?_eq_some_iff.1 ho).1
      have h2:=hon x hx
      have hx' :x<listed.size:=h2.lt
      unfold On at h2
      simp[hx']at h1 h2
      rw[h1]at h2
      cases h2
  intro fuel
  induction fuel with
  | zero=>
    intro listed a w hf hoff h
    exfalso
    have:=Df _ hf L (by rw[Array.length_toList,h.size];omega)
    exact hoff (by unfold On;simp at this;simp[this])
  | succ fuel ih=>
    intro listed a w hf hoff h
    have hstep:∀i∈Region.ready .any l.toArray listed,∃o,l[i]? =some o∧¬On listed i∧(∀e∈o.after,Region.binds .any e=true→On listed e.on)∧((listed.setIfInBounds i true).toList.filter (!·)).length=fuel:=by
      intro i hi
      obtain⟨h1,o,ho,hall⟩:=mem_ready.1 hi
      have ho' :l[i]? =some o:=by simpa using ho
      have hil:i<listed.size:=by rw[h.size];exact(List.getElem?_eq_some_iff.1 ho').1
      refine⟨o,ho',?_,fun e he hb=>hall e he hb,?_⟩
      · unfold On
        simp[hil]at h1 ⊢
        exact h1
      · rw[Array.toList_setIfInBounds]
        have:=Dz listed.toList i (by
          simp[hil]at h1
          simp[hil,h1])
        omega
    refine⟨fun hr=> ?_,fun i hi=> ?_⟩
    · exfalso
      have full:∀i,i<l.length→On listed i:=by
        intro i
        induction i using Nat.strongRecOn with
        | _ i ih=>
          intro hi
          refine Classical.byContradiction fun hno=> ?_
          have ho:l[i]? =some l[i]:=List.getElem?_eq_getElem hi
          have:i∈Region.ready .any l.toArray listed:=by
            refine mem_ready.2 ⟨?_,l[i],by rw[List.getElem?_toArray];exact ho,fun e he hb=> ?_⟩
            · have hi' :i<listed.size:=by rw[h.size];exact hi
              unfold On at hno
              simp[hi']at hno ⊢
              exact hno
            · have hlt:=g.back i _ ho e he hb
              exact ih e.on hlt (by omega)
          rw[hr]at this
          cases this
      exact hoff (full L (by omega))
    · obtain⟨o,ho,hno,hall,hcnt⟩:=hstep i hi
      by_cases hiL:i=L
      · subst hiL
        obtain rfl:oL=o:=by rw[hoL]at ho;exact Option.some.inj ho
        have hon:∀j,j<l.length→j≠i→On listed j:=fun j hj hne=>h.maskReady ho hall (hb j (by omega))
        have hst:=hQ listed a w hon hno h
        have hall' :∀j,j<l.length→On (listed.setIfInBounds i true) j:=fun j hj=>by
          by_cases hji:j=i
          · exact(on_set (by rw[h.size];omega)).2 (.inl hji)
          · exact(on_set (by rw[h.size];omega)).2 (.inr (hon j hj hji))
        have hr:=rdy (listed.setIfInBounds i true) (by simpa using h.size) hall'
        have fin:∀v w',Q .normal (a.put oL.dst v) w' →wpAny P .any l.toArray Q fuel (listed.setIfInBounds i true) (a.put oL.dst v) w' :=fun v w' hq=>by
          cases fuel with
          | zero=>exact⟨hr,hq⟩
          | succ m=>exact⟨fun _=>hq,fun j hj=>by rw[hr]at hj;cases hj⟩
        unfold wpOp
        simp only[List.getElem?_toArray,ho]
        have hw:Region.wanted oL (yielded l.toArray a.tmps)=true:=by unfold Region.wanted;rw[hgL]
        rw[if_pos hw]
        refine .inl ?_
        unfold Oper.wp
        generalize (execOp a.eval oL).run P w=r at hst ⊢
        match r,hst with
        | .ok (.value v) w',hst=>exact fin _ _ hst
        | .ok .skip w',hst=>exact fin _ _ hst
        | .halt (.panic v) w',hst=>exact hst
        | .ok (.enter f args) w',hst=>
          refine Calls.mono hst fun e w'' hx=> ?_
          match e,hx with
          | .returned v,hx=>exact fin _ _ hx
          | .panicked ch,hx=>exact hx
      · refine h.step g hkl hC (fun _ _ _ _ _ _ _ _ _ _=>trivial) hΦ hRr ho hno hall (hs i o ho hiL) fun a' w' h' =>ih _ _ _ hcnt (fun hx=> ?_) h'
        exact((on_set (by rw[h.size];exact(List.getElem?_eq_some_iff.1 ho).1)).1 hx).elim (fun e=>hiL e.symm) hoff
end
section
variable {P : Program} {n : Nat} {ρ : At} {w : World} {Q : B2}
theorem Ij{l:List Oper}(L:Nat)(oL:Oper)(ks:Nat→List Nat)(C:Nat→World→Prop)(R:Nat→World→World→Prop)(Φs:List Bd){id:Nat}(hm:P.follows .mixedOrders=true)(ds:List Tmp)(hg:Ck l n=true)(hn:Ef l L=true)(hkl:Cq l ks=true)(hds:slotsW l=ds)(hoL:l[L]? =some oL)(hgL:oL.guard=none)(hd:(match oL.dst with | some d=>Nat.blt d n | none=>true)=true)(hΦL:∀v w,A5 Φs L v w) 
    (hC:∀n m,n<l.length→m<l.length→n≠m→((AX l []).getD n 0).testBit m=false→∀w w',C m w→R n w w' →C m w')
    (hΦ:∀n i,n<l.length→i<l.length→i∉ks n→i≠n→((AX l []).getD i 0).testBit n=false→∀v w w',A5 Φs i v w→R n w w' →A5 Φs i v w')
    (hRr:∀n o w,l[n]? =some o→o.guard.isSome=true→R n w w) (h0:∀n,n<l.length→C n { w with drawn:=w.drawn+1 })
    (hs:StepsFL P l L C R (A5 Φs) ρ 0 l)
    (hQ:∀(ρ' :At) w1,C L w1→EndF ds ρ ρ' →Bu l ks (A5 Φs) ρ' w1 ds→Yp P (fun v w' =>Q .normal (Bo ρ' oL.dst v) w') (fun ch w' =>Q (.panic ch) ρ' w') ((execOp (Ai ρ') oL).run P w1)):B1 P n (.region id l.toArray true) Q ρ w:=by
  intro a ha
  obtain⟨T,df⟩:=a
  have hz:T.size=n:=ha.size
  subst hz
  obtain⟨hl,hb⟩:=EW hn
  have g:=Es hg
  refine wp_region_any hm (N5 (a0:= { tmps:=T,defers:=df }) (C:=C) (R:=R) (Φ:=A5 Φs) g hkl hn hoL hgL hC hΦ hRr (fun i o ho hi=> ?_) (fun listed a' w' hon hoff h=> ?_) _ _ _ _ (by simp) ?_ ?_)
  · have hst:=StepsFL.get l 0 hs i o ho (by omega)
    rw[Nat.zero_add]at hst
    have h2:=StepsF.ok (P:=P) (l:=l) (C:=C) (R:=R) (Φ:=A5 Φs) (T:=T) ha.get [o] i ⟨hst,trivial⟩
    exact h2.1
  · -- what the slots hold
    have hw:∀d k,Ct l d l.length=some k→(List.range l.length).all (fun n=> !(ks n).contains k)=true→A5 Φs k (a'.tmps.getD d undef) w' :=fun d k hk hall=>by
      obtain⟨h1,⟨o,ho,hd'⟩,h3⟩:=C3 _ hk
      by_cases hkL:k=L
      · rw[hkL];exact hΦL _ _
      refine h.new d k o ho hd' (hon k h1 hkL) (fun k' o' hkk ho' hd'' _=>h3 k' o' hkk (List.getElem?_eq_some_iff.1 ho').1 ho' hd'') (fun n hn hkn=> ?_)
      have hnl:n<l.length:=by have:=hn.lt;rw[h.size]at this;exact this
      have:=List.all_eq_true.1 hall n (by simpa using hnl)
      simp at this
      exact this hkn
    have hget:∀t,a'.tmps.getD t undef=if t∈ds then a'.tmps.getD t undef else ρ t:=fun t=>by
      by_cases hn:t∈ds
      · rw[if_pos hn]
      · rw[if_neg hn,←ha.get]
        exact h.old t fun k o ho hd _=>hn (by
          rw[←hds]
          unfold slotsW
          rw[List.mem_eraseDups,List.mem_filterMap]
          exact⟨o,List.mem_of_getElem? ho,hd⟩)
    have hcl:=h.cls L (by omega) hoff
    have hend:EndF ds ρ (fun t=>a'.tmps.getD t undef):=⟨fun t ht=>by rw[hget t,if_neg (by simpa using ht)]⟩
    have:=hQ (fun t=>a'.tmps.getD t undef) w' hcl hend (Dn hw ds)
    rw[evalR_eq]at this
    have hfit:Fits _ (fun t=>a'.tmps.getD t undef) a' :=⟨h.tmps,h.defers.trans ha.defers,fun t=>rfl⟩
    have hdn:∀t,oL.dst=some t→t<_:=fun t ht=>by rw[ht]at hd;exact Nat.le_of_ble_eq_true hd
    exact Yp.mono' this (fun v w'' hq=>⟨_,hfit.put oL.dst hdn v,hq⟩) (fun ch w'' hq=>⟨_,⟨h.tmps,h.defers.trans ha.defers,fun t=>rfl⟩,hq⟩)
  · intro h
    unfold On at h
    rw[Array.getD_eq_getD_getElem?,Array.getElem?_replicate]at h
    split at h <;> simp at h
  · have hno:∀i,¬On (Array.replicate l.toArray.size false) i:=fun i h=>by
      unfold On at h
      rw[Array.getD_eq_getD_getElem?,Array.getElem?_replicate]at h
      split at h <;> simp at h
    exact⟨Array.size_replicate,fun i o _ h=>absurd h (hno i),rfl,rfl,fun n hn _=>h0 n hn,trivial,fun t _=>rfl,fun t k o _ _ h=>absurd h (hno k)⟩
theorem Jb{l:List Oper}(L:Nat)(oL:Oper)(Φs:List Bd){id:Nat}(hm:P.follows .mixedOrders=true)(ds:List Tmp)(hg:Ck l n=true)(hn:Ef l L=true)(hds:slotsW l=ds) 
    (hoL:l[L]? =some oL) (hgL:oL.guard=none) (hd:(match oL.dst with | some d=>Nat.blt d n | none=>true)=true) (hΦL:∀v w,A5 Φs L v w) (hst:AllStab Ext Φs)
    (hs:StepsFL P l L (fun _=>Ext w) (fun _=>Ext) (A5 Φs) ρ 0 l)
    (hQ:∀(ρ' :At) w1,Ext w w1→EndF ds ρ ρ' →Bu l (fun _=> []) (A5 Φs) ρ' w1 ds→Yp P (fun v w' =>Q .normal (Bo ρ' oL.dst v) w') (fun ch w' =>Q (.panic ch) ρ' w') ((execOp (Ai ρ') oL).run P w1)):B1 P n (.region id l.toArray true) Q ρ w:=
  Ij L oL (fun _=> []) (fun _=>Ext w) (fun _=>Ext) Φs hm ds hg hn (by unfold Cq;simp) hds hoL hgL hd hΦL (fun _ _ _ _ _ _ _ _ hc hr=>hc.trans hr) (fun _ i _ _ _ _ _ v w1 w' =>hst.get Φs i v w1 w') (fun _ _ w1 _ _=>Ext.refl w1) (fun _ _=>(Below.refl _ _).drew) hs hQ
theorem Ly{ρ:At}{d:Option Tmp}{v:Value}{t:Tmp}(h:some t≠d):Bo ρ d v t=ρ t:=by
  cases d with
  | none=>rfl
  | some d=>
    show(bif Nat.beq t d then v else ρ t)=ρ t
    cases e:Nat.beq t d with
    | false=>rfl
    | true=>exact absurd (congrArg some (Nat.eq_of_beq_eq_true e)) h
theorem A3{l:List Oper}(L:Nat)(oL:Oper)(Φs:List Bd){id:Nat}(hm:P.follows .mixedOrders=true)(ds:List Tmp)(hg:Ck l n=true)(hn:Ef l L=true)(hds:slotsW l=ds) 
    (hoL:l[L]? =some oL) (hgL:oL.guard=none) (hd:(match oL.dst with | some d=>Nat.blt d n | none=>true)=true) (hΦL:∀v w,A5 Φs L v w) (hst:AllStab Ext Φs)
    (hs:StepsFL P l L (fun _=>Ext w) (fun _=>Ext) (A5 Φs) ρ 0 l)
    (hQ:∀(ρ' :At) w1,Ext w w1→EndF ds ρ ρ' →Bu l (fun _=> []) (A5 Φs) ρ' w1 ds→Yp P (fun _ w' =>∀ρ'' :At,(∀t,some t≠oL.dst→ρ'' t=ρ' t)→Q .normal ρ'' w') (fun ch w' =>Q (.panic ch) ρ' w') ((execOp (Ai ρ') oL).run P w1)):B1 P n (.region id l.toArray true) Q ρ w:=
  Jb L oL Φs hm ds hg hn hds hoL hgL hd hΦL hst hs fun ρ' w1 h1 h2 h3=>Yp.mono' (hQ ρ' w1 h1 h2 h3) (fun _ _ h=>h _ fun _ ht=>Ly ht) (fun _ _ h=>h)
end
open Go.RowKit
def Hx(l:List Oper)(k:Nat):Bool:=(List.range l.length).all fun i=>Nat.blt i k||(List.range i).all fun m=>((AX l []).getD i 0).testBit m
theorem MK{l:List Oper}{k:Nat}(h:Hx l k=true):∀i,k≤i→i<l.length→∀m,m<i→((AX l []).getD i 0).testBit m=true:=fun i hi hl m hm=>by
  unfold Hx at h
  have h1:=List.all_eq_true.1 h i (by simpa using hl)
  rcases Bool.or_eq_true _ _▸h1 with h2 | h2
  · have:=Nat.le_of_ble_eq_true h2
    omega
  · exact List.all_eq_true.1 h2 m (by simpa using hm)
section
variable {P : Program} {l : List Oper} {kill : Nat → List Nat} {C : Nat → World → Prop} {R : Nat → World → World → Prop} {Φ : Nat → Bd} {a0 : Act}
def StepsFC(P:Program)(l:List Oper)(L:Nat)(C:Nat→World→Prop)(R:Nat→World→World→Prop)(Φ:Nat→Bd)(ρ:At):Nat→List Oper→Prop
  | _,[]=>True
  | n,o :: r=>(bif Nat.ble L n then True else Dg P l C R Φ ρ n o)∧StepsFC P l L C R Φ ρ (n+1) r
theorem Av{L n:Nat}{ρ:At}{o:Oper}(h:Dg P l C R Φ ρ n o):bif Nat.ble L n then True else Dg P l C R Φ ρ n o:=by
  cases Nat.ble L n
  · exact h
  · trivial
theorem StepsFC.get{L:Nat}{ρ:At}:∀(r:List Oper) (n:Nat),StepsFC P l L C R Φ ρ n r→∀k o,r[k]? =some o→n+k<L→Dg P l C R Φ ρ (n+k) o
  | [],_,_,k,o,h,_=>by simp at h
  | o' :: r,n,hs,0,o,h,hne=>by
    simp only[List.getElem?_cons_zero,Option.some.injEq]at h
    subst h
    have h1:=hs.1
    rw[show Nat.ble L n=false by rw[←Bool.not_eq_true];exact fun x=>by have:=Nat.le_of_ble_eq_true x;omega]at h1
    exact h1
  | o' :: r,n,hs,k+1,o,h,hne=>by
    rw[List.getElem?_cons_succ]at h
    have:=StepsFC.get r (n+1) hs.2 k o h (by omega)
    rwa [show n+1+k=n+(k+1) by omega]at this
theorem JF{z:Nat}(g:Fz l z){k:Nat}(ht:∀i,k≤i→i<l.length→∀m,m<i→((AX l []).getD i 0).testBit m=true){Q:Exit→Act→World→Prop}:
    ∀(fuel m:Nat) (listed:Array Bool) (a:Act) (w:World),listed.size=l.length→(∀i,On listed i↔i<m)→k≤m→m≤l.length→l.length≤m+fuel→wpList P l.toArray Q (l.drop m) a w→wpAny P .any l.toArray Q fuel listed a w:=by
  have noReady:∀(m:Nat) (listed:Array Bool),listed.size=l.length→(∀i,On listed i↔i<m)→l.length≤m→Region.ready .any l.toArray listed= []:=by
    intro m listed hsz hon hm
    cases hr:Region.ready .any l.toArray listed with
    | nil=>rfl
    | cons x xs=>
      exfalso
      have hmem:x∈Region.ready .any l.toArray listed:=by rw[hr];simp
      obtain⟨h1,o,ho,_⟩:=mem_ready.1 hmem
      have hx:x<l.length:=by simpa using (Array.getElem?_eq_some_iff.1 ho).1
      have h2:=(hon x).2 (by omega)
      have hx' :x<listed.size:=h2.lt
      unfold On at h2
      simp[hx']at h1 h2
      rw[h1]at h2
      cases h2
  intro fuel
  induction fuel with
  | zero=>
    intro m listed a w hsz hon hk hm hf hw
    rw[List.drop_of_length_le (by omega)]at hw
    exact⟨noReady m listed hsz hon (by omega),hw⟩
  | succ fuel ih=>
    intro m listed a w hsz hon hk hm hf hw
    by_cases hml:m=l.length
    · have hr:=noReady m listed hsz hon (by omega)
      rw[List.drop_of_length_le (by omega)]at hw
      exact⟨fun _=>hw,fun i hi=>by rw[hr]at hi;cases hi⟩
    · have hlt:m<l.length:=by omega
      have hoff:¬On listed m:=fun x=>by have:=(hon m).1 x;omega
      have hI:Inv l (fun _=> []) (fun _ _=>True) (fun _ _=>True) (fun _ _ _=>True) a listed a w:=
        ⟨hsz,fun i o ho hi e he hb=>(hon _).2 (by have:=g.back i o ho e he hb;have:=(hon i).1 hi;omega),rfl,rfl,fun _ _ _=>trivial,trivial,fun _ _=>rfl,fun _ _ _ _ _ _ _ _=>trivial⟩
      refine⟨fun hr=> ?_,fun i hi=> ?_⟩
      · exfalso
        have ho:l[m]? =some l[m]:=List.getElem?_eq_getElem hlt
        have:m∈Region.ready .any l.toArray listed:=by
          refine mem_ready.2 ⟨?_,l[m],by rw[List.getElem?_toArray];exact ho,fun e he hb=>(hon _).2 (g.back m _ ho e he hb)⟩
          have hm' :m<listed.size:=by omega
          unfold On at hoff
          simp[hm']at hoff ⊢
          exact hoff
        rw[hr]at this
        cases this
      · obtain⟨h1,o,ho,hall⟩:=mem_ready.1 hi
        have ho' :l[i]? =some o:=by simpa using ho
        have hil:i<l.length:=(List.getElem?_eq_some_iff.1 ho').1
        have hno:¬On listed i:=fun x=>by
          have hx:i<listed.size:=by omega
          unfold On at x
          simp[hx]at h1 x
          rw[h1]at x
          cases x
        have him:i=m:=by
          by_cases h2:i<m
          · exact absurd ((hon i).2 h2) hno
          · by_cases h3:i=m
            · exact h3
            · exact absurd (hI.maskReady ho' (fun e he hb=>hall e he hb) (ht i (by omega) hil m (by omega))) hoff
        subst him
        rw[List.drop_eq_getElem_cons hlt]at hw
        obtain rfl:l[i]=o:=by rw[List.getElem?_eq_getElem hlt]at ho';exact Option.some.inj ho'
        have nxt:∀a' w',wpList P l.toArray Q (l.drop (i+1)) a' w' →wpAny P .any l.toArray Q fuel (listed.setIfInBounds i true) a' w' :=fun a' w' hw' =>
          ih (i+1) _ a' w' (by simpa using hsz) (fun j=>by rw[on_set (by omega),hon j];omega) (by omega) (by omega) (by omega) hw'
        unfold wpOp
        simp only[List.getElem?_toArray,ho']
        unfold wpList at hw
        split at hw
        · rename_i hwt
          rw[if_pos hwt]
          exact hw.imp (fun h=>Oper.wp_mono nxt h) (fun h=>h)
        · rename_i hwt
          rw[if_neg hwt]
          exact nxt _ _ hw
theorem Pa{E:Array Bool→World→Prop}(hE:∀n listed w w',n<l.length→listed.size=l.length→¬On listed n→(∀i k,On listed i∨i=n→((AX l []).getD i 0).testBit k=true→On listed k)→E listed w→R n w w' →E (listed.setIfInBounds n true) w')(g:Fz l a0.tmps.size)(hkl:Cq l kill=true){k:Nat}(ht:∀i,k≤i→i<l.length→∀m,m<i→((AX l []).getD i 0).testBit m=true)(hk:k≤l.length) 
    (hC:∀n m,n<l.length→m<l.length→n≠m→((AX l []).getD n 0).testBit m=false→∀w w',C m w→R n w w' →C m w') (hΦ:∀n i,n<l.length→i<l.length→i∉kill n→i≠n→((AX l []).getD i 0).testBit n=false→∀v w w',Φ i v w→R n w w' →Φ i v w') (hRr:∀n o w,l[n]? =some o→o.guard.isSome=true→R n w w) (hs:∀i o,l[i]? =some o→i<k→EE P l C R Φ a0.tmps i o) {Q:Exit→Act→World→Prop}
    (hQ:∀listed a' w',(∀i,On listed i↔i<k)→Inv l kill C E Φ a0 listed a' w' →wpList P l.toArray Q (l.drop k) a' w'):
    ∀(fuel:Nat) (listed:Array Bool) (a:Act) (w:World),(listed.toList.filter (!·)).length=fuel→(∀i,On listed i→i<k)→Inv l kill C E Φ a0 listed a w→wpAny P .any l.toArray Q fuel listed a w:=by
  intro fuel
  induction fuel with
  | zero=>
    intro listed a w hf hoff h
    have full:∀i,i<l.length→On listed i:=fun i hi=>by
      have:=Df _ hf i (by rw[Array.length_toList,h.size];omega)
      unfold On
      simp at this
      simp[this]
    have hkl' :k=l.length:=by
      by_cases e:k=l.length
      · exact e
      · have:=hoff k (full k (by omega));omega
    exact JF g ht 0 k listed a w h.size (fun i=>⟨hoff i,fun hi=>full i (by omega)⟩) (Nat.le_refl _) hk (by omega) (hQ listed a w (fun i=>⟨hoff i,fun hi=>full i (by omega)⟩) h)
  | succ fuel ih=>
    intro listed a w hf hoff h
    by_cases hfull:∀i,i<k→On listed i
    · have hon:∀i,On listed i↔i<k:=fun i=>⟨hoff i,hfull i⟩
      refine JF g ht (fuel+1) k listed a w h.size hon (Nat.le_refl _) hk ?_ (hQ listed a w hon h)
      have e:=List.take_append_drop k listed.toList
      rw[←e,List.filter_append,List.length_append]at hf
      have c:(listed.toList.drop k).filter (!·)=listed.toList.drop k:=List.filter_eq_self.2 fun b hb=>by
        obtain⟨j,hj,rfl⟩:=List.getElem_of_mem hb
        rw[List.getElem_drop]
        have hno:¬On listed (k+j):=fun x=>by have:=hoff _ x;omega
        rw[List.length_drop]at hj
        have hlt:k+j<listed.size:=by rw[←Array.length_toList];omega
        unfold On at hno
        simp[hlt]at hno
        simp[hno]
      rw[c,List.length_drop]at hf
      have hz:listed.toList.length=l.length:=by rw[Array.length_toList];exact h.size
      omega
    · have hlow:∃j,j<k∧¬On listed j:=by
        refine Classical.byContradiction fun hn=>hfull fun i hi=>Classical.byContradiction fun hx=>hn ⟨i,hi,hx⟩
      obtain⟨j0,hj0,hoff0⟩:=hlow
      refine⟨fun hr=> ?_,fun i hi=> ?_⟩
      · exfalso
        have full:∀i,i<l.length→On listed i:=by
          intro i
          induction i using Nat.strongRecOn with
          | _ i ih2=>
            intro hi
            refine Classical.byContradiction fun hno=> ?_
            have ho:l[i]? =some l[i]:=List.getElem?_eq_getElem hi
            have:i∈Region.ready .any l.toArray listed:=by
              refine mem_ready.2 ⟨?_,l[i],by rw[List.getElem?_toArray];exact ho,fun e he hb=> ?_⟩
              · have hi' :i<listed.size:=by rw[h.size];exact hi
                unfold On at hno
                simp[hi']at hno ⊢
                exact hno
              · have hlt:=g.back i _ ho e he hb
                exact ih2 e.on hlt (by omega)
            rw[hr]at this
            cases this
        exact hoff0 (full j0 (by omega))
      · obtain⟨h1,o,ho,hall0⟩:=mem_ready.1 hi
        have ho' :l[i]? =some o:=by simpa using ho
        have hilt:i<l.length:=(List.getElem?_eq_some_iff.1 ho').1
        have hil:i<listed.size:=by rw[h.size];exact hilt
        have hno:¬On listed i:=by
          unfold On
          simp[hil]at h1 ⊢
          exact h1
        have hall:∀e∈o.after,Region.binds .any e=true→On listed e.on:=fun e he hb=>hall0 e he hb
        have hik:i<k:=by
          by_cases h2:i<k
          · exact h2
          · exact absurd (h.maskReady ho' hall (ht i (by omega) hilt j0 (by omega))) hoff0
        have hcnt:((listed.setIfInBounds i true).toList.filter (!·)).length=fuel:=by
          rw[Array.toList_setIfInBounds]
          have:=Dz listed.toList i (by
            simp[hil]at h1
            simp[hil,h1])
          omega
        refine h.step g hkl hC hE hΦ hRr ho' hno hall (hs i o ho' hik) fun a' w' h' =>ih _ _ _ hcnt (fun j hx=> ?_) h'
        rcases(on_set hil).1 hx with rfl | h3
        · exact hik
        · exact hoff j h3
end
section
variable {P : Program} {n : Nat} {ρ : At} {w : World} {Q : B2}
theorem FU{l r:List Oper}(k0:Nat)(ks:Nat→List Nat)(C:Nat→World→Prop)(R:Nat→World→World→Prop)(E:Array Bool→World→Prop)(Φs:List Bd){id:Nat}(hm:P.follows .mixedOrders=true)(ds:List Tmp)(hg:Ck l n=true)(hn:Hx l k0=true)(c:Nat.ble Φs.length k0=true)(hkl:Cq l ks=true)(hds:slotsW l=ds)(hr:(l.drop k0)=r) 
    (hC:∀n m,n<l.length→m<l.length→n≠m→((AX l []).getD n 0).testBit m=false→∀w w',C m w→R n w w' →C m w')
    (hΦ:∀n i,n<l.length→i<l.length→i∉ks n→i≠n→((AX l []).getD i 0).testBit n=false→∀v w w',A5 Φs i v w→R n w w' →A5 Φs i v w')
    (hE:∀n listed w w',n<l.length→listed.size=l.length→¬On listed n→(∀i k,On listed i∨i=n→((AX l []).getD i 0).testBit k=true→On listed k)→E listed w→R n w w' →E (listed.setIfInBounds n true) w') (f:E (Array.replicate l.toArray.size false) { w with drawn:=w.drawn+1 })
    (hRr:∀n o w,l[n]? =some o→o.guard.isSome=true→R n w w) (h0:∀n,n<l.length→C n { w with drawn:=w.drawn+1 })
    (hs:StepsFC P l k0 C R (A5 Φs) ρ 0 l)
    (hlt:Nat.blt k0 l.length=true) (hQ:∀(ρ' :At) w1 listed,(∀i,On listed i↔i<k0)→E listed w1→C k0 w1→EndF ds ρ ρ' →Bu l ks (A5 Φs) ρ' w1 ds→Cd P l.toArray n Q r ρ' w1):B1 P n (.region id l.toArray true) Q ρ w:=by
  intro a ha
  obtain⟨T,df⟩:=a
  have hz:T.size=n:=ha.size
  subst hz
  have b:k0<l.length:=Nat.le_of_ble_eq_true hlt
  have g:=Es hg
  refine wp_region_any hm (Pa hE (a0:= { tmps:=T,defers:=df }) (C:=C) (R:=R) (Φ:=A5 Φs) g hkl (MK hn) (Nat.le_of_lt b) hC hΦ hRr (fun i o ho hi=> ?_) (fun listed a' w' hon h=> ?_) _ _ _ _ (by simp) ?_ ?_)
  · have hst:=StepsFC.get l 0 hs i o ho (by omega)
    rw[Nat.zero_add]at hst
    have h2:=StepsF.ok (P:=P) (l:=l) (C:=C) (R:=R) (Φ:=A5 Φs) (T:=T) ha.get [o] i ⟨hst,trivial⟩
    exact h2.1
  · -- what the slots hold
    have hw:∀d k,Ct l d l.length=some k→(List.range l.length).all (fun n=> !(ks n).contains k)=true→A5 Φs k (a'.tmps.getD d undef) w' :=fun d k hk hall=>by
      obtain⟨h1,⟨o,ho,hd'⟩,h3⟩:=C3 _ hk
      by_cases hkL:k0≤k
      · have e:A5 Φs k=fun _ _=>True:=by
          have:=Nat.le_of_ble_eq_true c
          unfold A5
          rw[List.getD_eq_getElem?_getD,List.getElem?_eq_none (by omega)]
          rfl
        rw[e]
        trivial
      refine h.new d k o ho hd' ((hon k).2 (by omega)) (fun k' o' hkk ho' hd'' _=>h3 k' o' hkk (List.getElem?_eq_some_iff.1 ho').1 ho' hd'') (fun n hn hkn=> ?_)
      have hnl:n<l.length:=by have:=hn.lt;rw[h.size]at this;exact this
      have:=List.all_eq_true.1 hall n (by simpa using hnl)
      simp at this
      exact this hkn
    have hget:∀t,a'.tmps.getD t undef=if t∈ds then a'.tmps.getD t undef else ρ t:=fun t=>by
      by_cases hn:t∈ds
      · rw[if_pos hn]
      · rw[if_neg hn,←ha.get]
        exact h.old t fun k o ho hd _=>hn (by
          rw[←hds]
          unfold slotsW
          rw[List.mem_eraseDups,List.mem_filterMap]
          exact⟨o,List.mem_of_getElem? ho,hd⟩)
    have hcl:=h.cls k0 b (fun x=>by have:=(hon k0).1 x;omega)
    have hend:EndF ds ρ (fun t=>a'.tmps.getD t undef):=⟨fun t ht=>by rw[hget t,if_neg (by simpa using ht)]⟩
    have:=hQ (fun t=>a'.tmps.getD t undef) w' listed hon h.ecl hcl hend (Dn hw ds)
    rw[hr]
    exact this a' ⟨h.tmps,h.defers.trans ha.defers,fun t=>rfl⟩
  · intro i h
    unfold On at h
    rw[Array.getD_eq_getD_getElem?,Array.getElem?_replicate]at h
    split at h <;> simp at h
  · have hno:∀i,¬On (Array.replicate l.toArray.size false) i:=fun i h=>by
      unfold On at h
      rw[Array.getD_eq_getD_getElem?,Array.getElem?_replicate]at h
      split at h <;> simp at h
    exact⟨Array.size_replicate,fun i o _ h=>absurd h (hno i),rfl,rfl,fun n hn _=>h0 n hn,f,fun t _=>rfl,fun t k o _ _ h=>absurd h (hno k)⟩
theorem DJ{l r:List Oper}(k0:Nat)(Φs:List Bd){id:Nat}(hm:P.follows .mixedOrders=true)(ds:List Tmp)(hg:Ck l n=true)(hn:Hx l k0=true)(a:Nat.ble Φs.length k0=true)(hds:slotsW l=ds)(hr:(l.drop k0)=r)(hlt:Nat.blt k0 l.length=true)(hst:AllStab Ext Φs) 
    (hs:StepsFC P l k0 (fun _=>Ext w) (fun _=>Ext) (A5 Φs) ρ 0 l)
    (hQ:∀(ρ' :At) w1,Ext w w1→EndF ds ρ ρ' →Bu l (fun _=> []) (A5 Φs) ρ' w1 ds→Cd P l.toArray n Q r ρ' w1):B1 P n (.region id l.toArray true) Q ρ w:=
  FU k0 (fun _=> []) (fun _=>Ext w) (fun _=>Ext) (fun _ _=>True) Φs hm ds hg hn a (by unfold Cq;simp) hds hr (fun _ _ _ _ _ _ _ _ hc hr=>hc.trans hr) (fun _ i _ _ _ _ _ v w1 w' =>hst.get Φs i v w1 w') (fun _ _ _ _ _ _ _ _ _ _=>trivial) trivial (fun _ _ w1 _ _=>Ext.refl w1) (fun _ _=>(Below.refl _ _).drew) hs hlt (fun ρ' w1 _ _ _=>hQ ρ' w1)
theorem Yk.allocX{K:Value→World→Prop}{d:Option Tmp}{ty:TypeId}{pos:String}{af:Array Edge}{gd:Option (Nat × Bool)}{e:TypeId}{cs:Array Value}(hz:∀(σ:Operand→Value) (w:World),(execOp σ ⟨d, .alloc e,ty,pos,af,gd⟩).run P w = .ok (.value (.pointer (some ⟨w.heap.size,0,none⟩))) (w.alloc (.cells cs e))) 
    (hk:K (.pointer (some ⟨w.heap.size,0,none⟩)) (w.alloc (.cells cs e))):Yk P K ((execOp (Ai ρ) ⟨d, .alloc e,ty,pos,af,gd⟩).run P w):=by
  rw[hz]
  exact hk
end
open Go.RowKit
def FH(w w' :World):Prop:=∀i o,w.heap.size≤i→w'.heap[i]? =some o→∃es c,o = .map es c
def DT(w b:World):Prop:=Ext w b∧∀i cs t fr,w.heap.size≤i→b.heap[i]? ≠some (Obj.cells cs t fr)
def Dy(w b:World):Prop:=Ext w b∧∀i j cs t fr cs' t' fr',w.heap.size≤i→w.heap.size≤j→b.heap[i]? =some (Obj.cells cs t fr)→b.heap[j]? =some (Obj.cells cs' t' fr')→i=j
def OD(w:World)(T:TypeId)(a b:World):Prop:=Ext a b∨∃g cs nc,w.heap.size≤g∧a.heap[g]? =some (Obj.cells cs T (0,0))∧b.heap[g]? =some (Obj.cells nc T (0,0))∧nc.size=cs.size∧a.grownBy b (some g)∧b.heap.size=a.heap.size
def RowK(w:World)(T:TypeId)(n:Nat):Bd:=fun x b=>∃g cs,x = .pointer (some ⟨g,0,none⟩)∧w.heap.size≤g∧b.heap[g]? =some (Obj.cells cs T (0,0))∧cs.size=n
theorem RowK.stab(w:World)(T:TypeId)(n:Nat):Stab (OD w T) (RowK w T n):=fun x a b ⟨g,cs,h1,h2,h3,h4⟩ k=>by
  have hlt:=(Array.getElem?_eq_some_iff.1 h3).1
  rcases k with k | ⟨g',cs',nc',k1,k2,k3,k4,k5,k6⟩
  · exact⟨g,cs,h1,h2,Ext.blk' k h3,h4⟩
  · by_cases e:g=g'
    · subst e
      rw[h3]at k2
      cases k2
      exact⟨g,nc',h1,h2,k3,k4.trans h4⟩
    · exact⟨g,cs,h1,h2,(k5.block g hlt (fun q=>e (Option.some.inj q))).trans h3,h4⟩
theorem MapF.stabK{α β:Type}{ek:α→Value}{ev:β→Value}{D:α→Prop}{w a b:World}{T:TypeId}{m:Nat}{G:α→Option β}(h:MapF ek ev D a m G)(k:OD w T a b):MapF ek ev D b m G:=by
  rcases k with k | ⟨g',cs',nc',k1,k2,k3,k4,k5,k6⟩
  · exact MapF.keep h k
  · refine MapF.other h k5 (fun e=> ?_)
    obtain rfl:=Option.some.inj e
    obtain⟨es,c,h,-⟩:=h
    rw[k2]at h
    cases h
section
variable {P : Program} {n : Nat} {ρ : At} {w : World} {Q : B2}
theorem Du{l r:List Oper}(kK kA kS k0:Nat)(T:TypeId)(zc nc:Array Value)(Φs:List Bd){id:Nat}(hm:P.follows .mixedOrders=true)(ds:List Tmp)(hg:Ck l n=true)(hn:Hx l k0=true)(f:Nat.ble Φs.length k0=true)(hds:slotsW l=ds)(hr:(l.drop k0)=r)(hlt:Nat.blt k0 l.length=true) 
    (hAS:((AX l []).getD kS 0).testBit kA=true) (hKA:Nat.beq kK kA=false) (hKS:Nat.beq kK kS=false) (hne:Nat.beq kA kS=false) (hgK:(l[kK]?.bind (·.guard))=none) (hgA:(l[kA]?.bind (·.guard))=none) (hgS:(l[kS]?.bind (·.guard))=none) (p:Nat.blt kS k0=true)
    (hst:AllStab (OD w T) Φs) (hzn:nc.size=zc.size)
    (hs:StepsFC P l k0 (fun m b=>bif Nat.beq m kA then DT w b else bif Nat.beq m kS then Dy w b else Ext w b) (fun m a b=>bif Nat.beq m kA then(DT w a∧b=a.alloc (Obj.cells zc T))else bif Nat.beq m kS then(Dy w a∧∃g cs,w.heap.size≤g∧a.heap[g]? =some (Obj.cells cs T (0,0))∧nc.size=cs.size∧b.heap[g]? =some (Obj.cells nc T (0,0))∧a.grownBy b (some g)∧b.heap.size=a.heap.size)else bif Nat.beq m kK then(Ext a b∧FH a b)else a=b) (A5 Φs) ρ 0 l)
    (hQ:∀(ρ' :At) w1,Ext w w1→(∀g cs t fr,w.heap.size≤g→w1.heap[g]? =some (Obj.cells cs t fr)→cs=nc)→EndF ds ρ ρ' →Bu l (fun _=> []) (A5 Φs) ρ' w1 ds→Cd P l.toArray n Q r ρ' w1):B1 P n (.region id l.toArray true) Q ρ w:=by
  have bf:∀ {a b:Nat},a≠b→Nat.beq a b=false:=fun h=>by rw[←Bool.not_eq_true,Nat.beq_eq];exact h
  have ne:∀ {a b:Nat},Nat.beq a b=false→a≠b:=fun h e=>by rw[e,Nat.beq_refl]at h;cases h
  have hkk:=ne hne
  have hka:=ne hKA
  have hks:=ne hKS
  -- what a step of each kind is
  have hnewC:∀ {a b:World},Ext a b→FH a b→∀i cs t fr,b.heap[i]? =some (Obj.cells cs t fr)→a.heap[i]? =some (Obj.cells cs t fr):=fun {a b} h1 h2 i cs t fr hb=>by
    by_cases hi:i<a.heap.size
    · have h:=Ext.blk' h1 (Array.getElem?_eq_getElem hi)
      rw[Array.getElem?_eq_getElem hi,←h,hb]
    · obtain⟨es,c,e⟩:=h2 i _ (by omega) hb
      cases e
  have s:∀ {a b:World},Ext w a→(∃g,w.heap.size≤g∧a.grownBy b (some g))→Ext w b:=fun ha ⟨g,h1,h2⟩=>Ae ha h2 h1
  have hRS:∀ {i:Nat} {a b:World},(bif Nat.beq i kA then(DT w a∧b=a.alloc (Obj.cells zc T))else bif Nat.beq i kS then(Dy w a∧∃g cs,w.heap.size≤g∧a.heap[g]? =some (Obj.cells cs T (0,0))∧nc.size=cs.size∧b.heap[g]? =some (Obj.cells nc T (0,0))∧a.grownBy b (some g)∧b.heap.size=a.heap.size)else bif Nat.beq i kK then(Ext a b∧FH a b)else a=b)→OD w T a b∧(Ext w a→Ext w b):=fun {i a b} h=>by
    by_cases hiA:i=kA
    · subst hiA
      rw[Nat.beq_refl]at h
      simp only[cond_true]at h
      have hx:Ext a b:=by rw[h.2];exact(Below.refl _ _).alloc (Nat.le_refl _) _
      exact⟨.inl hx,fun k=>k.trans hx⟩
    · rw[bf hiA]at h
      by_cases hiS:i=kS
      · subst hiS
        rw[Nat.beq_refl]at h
        simp only[cond_true,cond_false]at h
        obtain⟨h0,g,cs,h1,h2,h3,h4,h5,h6⟩:=h
        exact⟨.inr ⟨g,cs,nc,h1,h2,h4,h3,h5,h6⟩,fun k=>s k ⟨g,h1,h5⟩⟩
      · rw[bf hiS]at h
        by_cases hiK:i=kK
        · subst hiK
          rw[Nat.beq_refl]at h
          simp only[cond_true,cond_false]at h
          exact⟨.inl h.1,fun k=>k.trans h.1⟩
        · rw[bf hiK]at h
          simp only[cond_false]at h
          subst h
          exact⟨.inl (Ext.refl _),fun k=>k⟩
  refine FU k0 (fun _=> []) _ _ (fun listed b=>Ext w b∧(On listed kS→∀g cs t fr,w.heap.size≤g→b.heap[g]? =some (Obj.cells cs t fr)→cs=nc)) Φs hm ds hg hn f (by unfold Cq;simp) hds hr (fun i m _ _ hne' hbit a b hc hr=> ?_) (fun i j _ _ _ _ _ v a b h hr=>hst.get Φs j v a b h (hRS hr).1) (fun i listed a b _ hsz hno hcl he hr=>⟨(hRS hr).2 he.1,?_⟩) ⟨(Below.refl _ _).drew,fun h=>absurd h On.not_replicate⟩ (fun i o a ho hgo=> ?_) (fun m _=> ?_) hs hlt (fun ρ' w1 listed hon he hc h2 h3=> ?_)
  · by_cases hmA:m=kA
    · subst hmA
      rw[Nat.beq_refl]at hc ⊢
      simp only[cond_true]at hc ⊢
      refine⟨(hRS hr).2 hc.1,fun i' cs t fr hi' hb=> ?_⟩
      have hiS:i≠kS:=fun e=>by rw[e,hAS]at hbit;cases hbit
      rw[bf hne',bf hiS]at hr
      by_cases hiK:i=kK
      · subst hiK
        rw[Nat.beq_refl]at hr
        simp only[cond_true,cond_false]at hr
        exact hc.2 i' cs t fr hi' (hnewC hr.1 hr.2 i' cs t fr hb)
      · rw[bf hiK]at hr
        simp only[cond_false]at hr
        subst hr
        exact hc.2 i' cs t fr hi' hb
    · rw[bf hmA]at hc ⊢
      by_cases hmS:m=kS
      · subst hmS
        rw[Nat.beq_refl]at hc ⊢
        simp only[cond_true,cond_false]at hc ⊢
        refine⟨(hRS hr).2 hc.1,fun i1 j1 cs t fr cs' t' fr' hi1 hj1 h1 h2=> ?_⟩
        by_cases hiA:i=kA
        · subst hiA
          rw[Nat.beq_refl]at hr
          simp only[cond_true]at hr
          obtain⟨u,rfl⟩:=hr
          have hat:∀i cs t fr,w.heap.size≤i→(a.alloc (Obj.cells zc T)).heap[i]? =some (Obj.cells cs t fr)→i=a.heap.size:=fun i cs t fr hi h=>by
            by_cases hlt:i<a.heap.size
            · have h' :a.heap[i]? =some (Obj.cells cs t fr):=by rw[←heap_alloc_old a (Obj.cells zc T) hlt];exact h
              exact absurd h' (u.2 i cs t fr hi)
            · have:=(Array.getElem?_eq_some_iff.1 h).1
              simp at this
              omega
          rw[hat _ _ _ _ hi1 h1,hat _ _ _ _ hj1 h2]
        · rw[bf hiA,bf hne']at hr
          by_cases hiK:i=kK
          · subst hiK
            rw[Nat.beq_refl]at hr
            simp only[cond_true,cond_false]at hr
            exact hc.2 i1 j1 _ _ _ _ _ _ hi1 hj1 (hnewC hr.1 hr.2 _ _ _ _ h1) (hnewC hr.1 hr.2 _ _ _ _ h2)
          · rw[bf hiK]at hr
            simp only[cond_false]at hr
            subst hr
            exact hc.2 i1 j1 _ _ _ _ _ _ hi1 hj1 h1 h2
      · rw[bf hmS]at hc ⊢
        exact(hRS hr).2 hc
  · intro hon g cs t fr hg' hb
    by_cases hiS:i=kS
    · subst hiS
      rw[bf (Ne.symm hkk),Nat.beq_refl]at hr
      simp only[cond_true,cond_false]at hr
      obtain⟨h0,g0,cs0,h1,h2,h3,h4,h5,h6⟩:=hr
      by_cases e:g=g0
      · subst e
        rw[h4]at hb
        cases hb
        rfl
      · have hgl:g<a.heap.size:=by have:=(Array.getElem?_eq_some_iff.1 hb).1;omega
        rw[h5.block g hgl (fun q=>e (Option.some.inj q))]at hb
        exact absurd (h0.2 g g0 _ _ _ _ _ _ hg' h1 hb h2) e
    · have hon' :On listed kS:=by
        rcases(on_set (by omega)).1 hon with h1 | h1
        · exact absurd h1.symm hiS
        · exact h1
      have hiA:i≠kA:=fun e=>hno (by rw[e];exact hcl kS kA (.inl hon') hAS)
      rw[bf hiA,bf hiS]at hr
      by_cases hiK:i=kK
      · subst hiK
        rw[Nat.beq_refl]at hr
        simp only[cond_true,cond_false]at hr
        exact he.2 hon' g cs t fr hg' (hnewC hr.1 hr.2 _ _ _ _ hb)
      · rw[bf hiK]at hr
        simp only[cond_false]at hr
        subst hr
        exact he.2 hon' g cs t fr hg' hb
  · have hgn:∀ {k:Nat},(l[k]?.bind (·.guard))=none→i≠k:=fun h e=>by rw[e]at ho;rw[ho]at h;simp only[Option.bind_some]at h;rw[h]at hgo;cases hgo
    rw[bf (hgn hgA),bf (hgn hgS),bf (hgn hgK)]
    rfl
  · have h0:∀i,w.heap.size≤i→∀o,({ w with drawn:=w.drawn+1 } :World).heap[i]? ≠some o:=fun i hi o h=>by
      have:=(Array.getElem?_eq_some_iff.1 h).1
      exact absurd this (by show ¬i<w.heap.size;omega)
    by_cases hmA:m=kA
    · subst hmA
      rw[Nat.beq_refl]
      exact⟨(Below.refl _ _).drew,fun i cs t fr hi h=>h0 i hi _ h⟩
    · rw[bf hmA]
      by_cases hmS:m=kS
      · subst hmS
        rw[Nat.beq_refl]
        exact⟨(Below.refl _ _).drew,fun i j cs t fr _ _ _ hi _ h _=>absurd h (h0 i hi _)⟩
      · rw[bf hmS]
        exact(Below.refl _ _).drew
  · exact hQ ρ' w1 he.1 (he.2 ((hon kS).2 (Nat.le_of_ble_eq_true p))) h2 h3
end
open Go.RowKit
section
variable {P : Program} {K : Value → World → Prop} {ρ : At} {w : World} {d : Option Tmp} {ty : TypeId} {pos : String} {af : Array Edge} {gd : Option (Nat × Bool)}
variable {α β : Type} {ek : α → Value} {ev : β → Value} {D : α → Prop} {b : Nat} {G : α → Option β}
variable {t Kt E : TypeId} {OK : Value → Prop}
theorem Yk.insM[DecidableEq α](L:KL P Kt OK)(hD:∀a,D a→OK (ek a))(ht:P.underlying t=some (.map Kt E)){x y z:Operand}{a:α}{c:β} 
    (hm:Ai ρ x = .map (some b)) (hy:Ai ρ y=ek a) (hz:Ai ρ z=ev c) (h:MapF ek ev D w b G) (ha:D a) (hk:∀w',MapF ek ev D w' b (updM G a (some c))→w.grownBy w' (some b)→w'.heap.size=w.heap.size→K undef w'):
    Yk P K ((execOp (Ai ρ) ⟨d, .insert t x y z,ty,pos,af,gd⟩).run P w):=by
  obtain⟨w',hrun,h1,h2,h3⟩:=h.put L hD ht ha c
  have hr:(execOp (Ai ρ) ⟨d, .insert t x y z,ty,pos,af,gd⟩).run P w = .ok .skip w' ∨(execOp (Ai ρ) ⟨d, .insert t x y z,ty,pos,af,gd⟩).run P w = .ok (.value undef) w' :=by
    unfold execOp
    simp only[hm,hy,hz,Sem.run_bind,hrun,Result.andThen_ok,Sem.run_pure]
    simp
  rcases hr with hr | hr <;> rw[hr] <;> exact hk w' h1 h2 h3
theorem Yk.build3{t:TypeId}{i0 i1 i2:Nat}{x0 x1 x2:Operand}{a b c v:Value}(h0:Ai ρ x0=a)(h1:Ai ρ x1=b)(h2:Ai ρ x2=c)(hr:∀w:World,(Instr.build t #[(i0,a),(i1,b),(i2,c)]).run P w = .ok v w)(hk:K v w):Yk P K ((execOp (Ai ρ) ⟨d, .build t #[(i0,x0),(i1,x1),(i2,x2)],ty,pos,af,gd⟩).run P w):=
  Yk.build (by simp[h0,h1,h2]) hr hk
end
theorem MapF.isMapB{α β:Type}{ek:α→Value}{ev:β→Value}{D:α→Prop}{w:World}{b:Nat}{G:α→Option β}(h:MapF ek ev D w b G):∃es c,w.heap[b]? =some (.map es c):=by
  obtain⟨es,c,h,-⟩:=h
  exact⟨_,c,h⟩
abbrev AA(p:Ag):Value:= .agg (partsC p).toArray
abbrev Bl:Ag:=⟨false,false,false,false,false,false,false,false⟩
theorem Cn:KL Tryd.prog 5 (MapKept.IsKey (.int .u8)):=KL.ofKey (by kernel_rfl)
theorem Co:∀n:UInt8,True→MapKept.IsKey (.int .u8) (B8 n):=fun n _=>by first | exact⟨_,rfl⟩ | simp[MapKept.IsKey]
theorem C2{a b:UInt8}(h:B8 a=B8 b):a=b:=by
  injection h with _ h
  exact UInt8.toNat_inj.1 (Int.ofNat.inj h)
theorem B9:∀u:World,(zeroValue 92).run Tryd.prog u = .ok (AA Bl) u:=fun _=>by kernel_rfl
def AT:UInt8→Option Ag:=
  updM (updM (updM (updM (updM (updM (updM (updM (fun _=>none) 1 (some Bl)) 2 (some ⟨true,false,false,false,false,false,false,false⟩)) 3 (some ⟨false,true,false,false,false,false,false,false⟩)) 4 (some ⟨false,false,true,false,true,false,false,false⟩)) 5 (some ⟨false,false,false,true,false,false,false,false⟩)) 6 (some ⟨false,false,false,true,false,true,false,false⟩)) 7 (some ⟨false,false,true,false,true,false,true,false⟩)) 8 (some ⟨false,false,false,false,false,false,false,true⟩)
def CA(m:Msg)(p:Ag):Bool:=
  ((((((((p.refs||decide (m.refs.length=0))&&(p.ids||(decide (m.wants.length=0)&&decide (m.haves.length=0))))&&(p.size||decide (m.size=((0:Nat):Int))))&&(p.at_||decide (m.at_=((0:Nat):Int))))&&(p.id||zeroB m.id))&&(p.bytes||decide (m.bytes.length=0)))&&(p.push||(((decide (m.name= [])&&zeroB m.old)&&zeroB m.new)&& !m.force)))&&(p.code||decide (m.code=((0:Nat):Int))))
structure MsgAt (w : World) (x : Am) : Prop where
  refs:RG 66 updC w x.2.refs x.1.refs
  wants:RG 32 Lib.byteCells w x.2.wants x.1.wants
  haves:RG 32 Lib.byteCells w x.2.haves x.1.haves
  bytes:RB w x.2.bytes x.1.bytes
theorem MsgAt.keep{w w' :World}{x:Am}(h:MsgAt w x)(k:Ext w w'):MsgAt w' x:=⟨h.refs.keep k,h.wants.keep k,h.haves.keep k,h.bytes.keep k⟩
structure CX (m : Msg) : Prop where
  refs:m.refs.length≤4611686018427387904
  names:∀u∈m.refs,u.name.length≤4611686018427387904
  wants:m.wants.length≤4611686018427387904
  haves:m.haves.length≤4611686018427387904
  name:m.name.length≤4611686018427387904
noncomputable def CR(m:Msg)(p:Ag):Bool:=
  !(((((!boundB m.session 2147483647|| !CA m p)|| !Cm m.refs)|| !CF m.wants)|| !CF m.haves)) &&
  (!((!boundB m.size 1048576|| !boundB m.at_ 1048576)|| !boundB m.code 22) &&
  (!(p.bytes&&(decide (m.bytes.length<1)||decide (256<m.bytes.length))) &&
  (!p.push||(nameB m.name&& !zeroB m.new))))
noncomputable def rightB(m:Msg):Bool:=match AT m.kind with
  | none=>false
  | some p=>CR m p
theorem Ko{m:Msg}(h:AT m.kind=none):rightB m=false:=by unfold rightB;rw[h]
theorem C5{m:Msg}{p:Ag}(h:AT m.kind=some p):rightB m=CR m p:=by unfold rightB;rw[h]
open Go.RowKit
def nE(l:List BC)(i:Nat):Bool:=((!nameB (l.getD i Af).name)||zeroB (l.getD i Af).id)||(decide (0<i)&&(!Op.bytesLess (l.getD (i-1) Af).name (l.getD i Af).name))
open Classical in
noncomputable def A1(l:List BC):Bool:=decide ((∀j,j<l.length→nE l j=false)∧l.length≤64)
theorem Hy{l:List BC}{i:Nat}(hi:l.length≤i)(h:∀j,j<i→nE l j=false):A1 l=decide (l.length≤64):=by
  classical
  unfold A1
  by_cases h2:l.length≤64
  · rw[decide_eq_true h2,decide_eq_true ⟨fun j hj=>h j (by omega),h2⟩]
  · rw[decide_eq_false h2,decide_eq_false (fun k=>h2 k.2)]
theorem Kp{l:List BC}(h:64<l.length):A1 l=false:=by
  classical
  exact decide_eq_false (fun k=>by have:=k.2;omega)
theorem Hz{l:List BC}{i:Nat}(hi:i<l.length)(h:nE l i=true):A1 l=false:=by
  classical
  exact decide_eq_false (fun k=>by have:=k.1 i hi;rw[h]at this;cases this)
theorem GF{p:Nat→Bool}{i:Nat}(h:∀j,j<i→p j=false)(h1:p i=false):∀j,j<i+1→p j=false:=fun j hj=>by
  by_cases e:j<i
  · exact h j e
  · obtain rfl:j=i:=by omega
    exact h1
def Dj(k:UInt8):Bool:=(decide (k.toNat=1)||decide (k.toNat=2))||decide (k.toNat=3)
def EO(l:List Ed)(i:Nat):Bool:=((!Dj (l.getD i Au).kind)||(!Dt (l.getD i Au).note))||decide (32<(l.getD i Au).name.length)
noncomputable def FV(r:Cv):Bool:=((!A1 r.branches)||(!A1 r.tags))||decide (64<r.log.length)
noncomputable def HA(r:Cv):Bool:=(decide (r.head≠ [])&&((!nameB r.head)||(!zeroB r.at_)))||(decide (r.head= [])&&zeroB r.at_)
open Classical in
noncomputable def Cx(r:Cv):Bool:=(!FV r)&&((!HA r)&&decide (∀j,j<r.log.length→EO r.log j=false))
theorem JG{r:Cv}(h:FV r=true):Cx r=false:=by unfold Cx;rw[h];rfl
theorem JH{r:Cv}(h1:FV r=false)(h:HA r=true):Cx r=false:=by unfold Cx;rw[h1,h];rfl
theorem HC{r:Cv}{i:Nat}(h1:FV r=false)(h2:HA r=false)(hi:i<r.log.length)(h:EO r.log i=true):Cx r=false:=by
  classical
  unfold Cx;rw[h1,h2,decide_eq_false (fun k=>by have:=k i hi;rw[h]at this;cases this)];rfl
theorem HE{r:Cv}{i:Nat}(h1:FV r=false)(h2:HA r=false)(hi:r.log.length≤i)(h:∀j,j<i→EO r.log j=false):Cx r=true:=by
  classical
  unfold Cx;rw[h1,h2,decide_eq_true (fun j hj=>h j (by omega))];rfl
structure RefsAt (w : World) (x : Ay) : Prop where
  branches:RG 33 nmdC w x.2.branches x.1.branches
  tags:RG 33 nmdC w x.2.tags x.1.tags
  log:RG 67 entC w x.2.log x.1.log
theorem RefsAt.keep{w w' :World}{x:Ay}(h:RefsAt w x)(k:Ext w w'):RefsAt w' x:=⟨h.branches.keep k,h.tags.keep k,h.log.keep k⟩
structure Fr (r : Cv) : Prop where
  branches:r.branches.length<9223372036854775807
  tags:r.tags.length<9223372036854775807
  log:r.log.length<9223372036854775807
  bn:∀u∈r.branches,u.name.length≤9223372036854775807
  tn:∀u∈r.tags,u.name.length≤9223372036854775807
  head:r.head.length≤9223372036854775807
abbrev By(k:UInt8)(n:BC):AO:=⟨k,n.name,zid,n.id⟩
theorem Eb{α β:Type}{f:α→β}{L:List β}{l:List α}{i:Nat}{d:α}(h:i<l.length):L++(l.take i).map f++ [f (l.getD i d)]=L++(l.take (i+1)).map f:=by
  rw[List.append_assoc,List.take_add_one,List.map_append,List.getElem?_eq_getElem h,List.getD_eq_getElem?_getD,List.getElem?_eq_getElem h];rfl
noncomputable def ofB(r:Cv):List AO:=if Cx r=true then r.branches.map (By 1)++r.tags.map (By 2)else []
end Go.Proofs.YtmonlobfofkbdaaDoor
