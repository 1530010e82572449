/- Part 2 of what stands behind these statements: laws and walks of the functions that are reached. Conditions: those that each theorem names. -/
import Derived.Test.YtmonlobfofkbdaaGreatDoorY1
set_option linter.unusedVariables false
set_option linter.unusedSimpArgs false
namespace Go.Proofs.YtmonlobfofkbdaaGreatDoor
open Go.RowKit
set_option maxRecDepth 100000
theorem Ez:Tryz.prog.underlying 21=some (.int .i32):=by kernel_rfl
theorem DT:Tryz.prog.underlying 9=some (.string):=by kernel_rfl
theorem Jw:AI Tryz.prog 98:=fun _ _=>by kernel_rfl
theorem Nx:AI Tryz.prog 99:=fun _ _=>by kernel_rfl
theorem Ny:AI Tryz.prog 89:=fun _ _=>by kernel_rfl
theorem Jx:AI Tryz.prog 77:=fun _ _=>by kernel_rfl
theorem Nz:AI Tryz.prog 63:=fun _ _=>by kernel_rfl
theorem NA:AI Tryz.prog 62:=fun _ _=>by kernel_rfl
set_option maxHeartbeats 1600000
theorem Qq(w:World)(r:Nat):
  Calls Tryz.prog 99 #[.int .i32 (r:Int)] w fun e w' =>e = .returned (.bool (Dh r))∧Ext w w' :=by
 refine As (args:= [.int .i32 ((r:Nat):Int)]) Tryz.func99 rfl 17 rfl (Nat.le_of_ble_eq_true rfl) ?_
 intro f hb
 have c:f 0=(.int .i32 ((r:Nat):Int):Value):=hb.get 0
 clear hb
 have hE:=Ext.refl w
 refine sk fun i g=>(wt (oA rfl (oZ (tN (g _ _ (sk fun j h=>(wt (oM rfl (oS rfl (Yk.eqI (a:=(r:Nat)) (b:=(0:Nat)) c rfl (Ds _ _ _ _) (oM rfl (Ac (.int .i32 ((r:Nat):Int)) rfl rfl (gT (vr (.bool (decide ((0)≤(r)))) rfl)) (fun hG3=>Yk.move c ⟨rfl,rfl⟩) (Ac (.bool (decide ((r)≤(1114111)))) rfl rfl (gT (vr (.bool (decide ((0)≤(r)))) rfl)) (fun hG4=>Yk.eqI (a:=((r:Nat):Int)) (b:=((1114111:Nat):Int)) (Ak (vr (cond ((decide ((0)≤(r)))) (.int .i32 ((r:Nat):Int)) undef) rfl) hG4) (vr (.int .i32 ((1114111:Nat):Int)) rfl) (Cs _ .i32 (r) (1114111)) ⟨rfl,rfl⟩) (oS rfl (Yk.pickAndN (vr (.bool (decide ((0)≤(r)))) rfl) (fun hA=>(Ak (vr (cond ((decide ((0)≤(r)))) (.bool (decide ((r)≤(1114111)))) undef) rfl) hA)) (vr (.bool (false)) rfl) fun bb5 hbb6=>(oM rfl (Ac (.int .i32 ((r:Nat):Int)) rfl rfl (gT (vr (.bool (bb5)) rfl)) (fun hG7=>Yk.move c ⟨rfl,rfl⟩) (Ac (.bool (decide ((r)<(55296)))) rfl rfl (gT (vr (.bool (bb5)) rfl)) (fun hG8=>Yk.eqI (a:=((r:Nat):Int)) (b:=((55296:Nat):Int)) (Ak (vr (cond (bb5) (.int .i32 ((r:Nat):Int)) undef) rfl) hG8) (vr (.int .i32 ((55296:Nat):Int)) rfl) (AX _ .i32 (r) (55296)) ⟨rfl,rfl⟩) ?_))))))))))))))))))
 refine Ac (.bool (decide ((r)<(55296)))) rfl rfl (gT (vr (.bool (bb5)) rfl)) (fun hG9=>Yk.move (Ak (vr (cond (bb5) (.bool (decide ((r)<(55296)))) undef) rfl) hG9) ⟨rfl,rfl⟩) (Ac (.int .i32 ((r:Nat):Int)) rfl rfl (D3 (vr (cond (bb5) (.bool (decide ((r)<(55296)))) undef) rfl)) (fun hG10=>Yk.move c ⟨rfl,rfl⟩) (Ac (.bool (decide ((57343)<(r)))) rfl rfl (D3 (vr (cond (bb5) (.bool (decide ((r)<(55296)))) undef) rfl)) (fun hG11=>Yk.eqI (a:=((r:Nat):Int)) (b:=((57343:Nat):Int)) (Ak (vr (cond (bb5&& !(decide ((r)<(55296)))) (.int .i32 ((r:Nat):Int)) undef) rfl) hG11) (vr (.int .i32 ((57343:Nat):Int)) rfl) (BA _ .i32 (r) (57343)) ⟨rfl,rfl⟩) (Cv ((decide ((r)<(55296)))||(decide ((57343)<(r)))) rfl rfl (gT (vr (.bool (bb5)) rfl)) (fun hG12=>Yk.pickOr (Ak (vr (cond (bb5) (.bool (decide ((r)<(55296)))) undef) rfl) hG12) (vr (.bool (true)) rfl) (fun hA=>(Ak (vr (cond (bb5&& !(decide ((r)<(55296)))) (.bool (decide ((57343)<(r)))) undef) rfl) (Du hG12 (Bb hA)))) ⟨rfl,rfl⟩) fun bb13 hbb14=>(oS rfl (Yk.pickAndN (vr (.bool (bb5)) rfl) (fun hA=>(Ak (vr (cond (bb5) (.bool (bb13)) undef) rfl) hA)) (vr (.bool (false)) rfl) fun bb15 hbb16=>(oA rfl (oZ (tN (h _ _ (Am (Aj (fn:=Tryz.f99) _ rfl [.bool (bb15)] (.bool (bb15)) rfl ⟨rfl,trivial⟩ ?_)))))))))))
 subst hbb6 hbb14 hbb16
 exact⟨rfl,hE⟩

theorem La(w:World)(c:UInt8):
  Calls Tryz.prog 98 #[B8 c] w fun e w' =>e = .returned (Rv (B0 c))∧Ext w w' :=by
 refine As (args:= [B8 (c)]) Tryz.func98 rfl 40 rfl (Nat.le_of_ble_eq_true rfl) ?_
 intro k hb
 have f:k 0=(B8 (c):Value):=hb.get 0
 clear hb
 have hE:=Ext.refl w
 refine sk fun y l=>(wt (oA rfl (oA rfl (oA rfl (oZ (tN (l _ _ (sk fun z m=>(Av (sk fun K3 o=>(wt (oM rfl (oS rfl (Yk.eqI (a:=((c).toNat:Nat)) (b:=(128:Nat)) f rfl (AX _ _ _ _) (oA rfl (oZ (tN (o _ _ ?_))))))))))))))))))
 refine AL (((c).toNat)<(128)) (vr (.bool (decide (((c).toNat)<(128)))) rfl) (fun g=> ?_) (fun g=> ?_)
 ·refine sk fun K4 p=>(wt (oM rfl (oS rfl (Yk.convI u5 Ez f (C6 .i32 (c) (fun n hn=>C3 n (by omega))) (oA rfl (oA rfl (oA rfl (oZ (tN (p _ _ (Am (AE (An (Aj (fn:=Tryz.f98) _ rfl [NI 0, .int .i32 (((c).toNat:Nat):Int), .int .i32 ((0:Nat):Int)] (.tuple #[NI 0, .int .i32 (((c).toNat:Nat):Int), .int .i32 ((0:Nat):Int)]) rfl ⟨rfl,rfl,rfl,trivial⟩ ?_))))))))))))))
  refine⟨congrArg Ending.returned ?_,hE⟩
  unfold B0
  rw[if_pos g]
  rfl
 refine sk fun K5 q=>(wt (oM rfl (oS rfl (Yk.eqI (a:=((c).toNat:Nat)) (b:=(192:Nat)) f rfl (Ds _ _ _ _) (oM rfl (Ac (B8 (c)) rfl rfl (gT (vr (.bool (decide ((192)≤((c).toNat)))) rfl)) (fun hG6=>Yk.move f ⟨rfl,rfl⟩) (Ac (.bool (decide (((c).toNat)<(224)))) rfl rfl (gT (vr (.bool (decide ((192)≤((c).toNat)))) rfl)) (fun hG7=>Yk.eqI (a:=(((c).toNat:Nat):Int)) (b:=((224:Nat):Int)) (Ak (vr (cond ((decide ((192)≤((c).toNat)))) (B8 (c)) undef) rfl) hG7) (vr (B8 (224)) rfl) (AX _ .u8 ((c).toNat) (224)) ⟨rfl,rfl⟩) (oS rfl (Yk.pickAndN (vr (.bool (decide ((192)≤((c).toNat)))) rfl) (fun hA=>(Ak (vr (cond ((decide ((192)≤((c).toNat)))) (.bool (decide (((c).toNat)<(224)))) undef) rfl) hA)) (vr (.bool (false)) rfl) fun bb8 hbb9=>(oA rfl (oZ (tN (q _ _ ?_)))))))))))))
 refine AW (bb8) (vr (.bool (bb8)) rfl) (fun h=> ?_) (fun h=> ?_)
 ·subst hbb9
  refine sk fun ad r=>(wt (oM rfl (oS rfl (Yk.bin (xv:= .int .u8 (((c).toNat:Nat):Int)) (yv:= .int .u8 ((31:Nat):Int)) f rfl rfl (GO _ _ _ (c.toNat_lt) (by decide)) (oS rfl (Yk.convI u5 Ez (vr (.int .u8 ((((c).toNat)&&&(31):Nat):Int)) rfl) (C3 (((c).toNat)&&&(31)) (Nat.lt_of_le_of_lt Nat.and_le_right (by decide))) (oA rfl (oA rfl (oA rfl (oZ (tN (r _ _ (Am (AE (An (Aj (fn:=Tryz.f98) _ rfl [NI 1, .int .i32 ((((c).toNat)&&&(31):Nat):Int), .int .i32 ((128:Nat):Int)] (.tuple #[NI 1, .int .i32 ((((c).toNat)&&&(31):Nat):Int), .int .i32 ((128:Nat):Int)]) rfl ⟨rfl,rfl,rfl,trivial⟩ ?_))))))))))))))))
  refine⟨congrArg Ending.returned ?_,hE⟩
  unfold B0
  rw[if_neg g]
  rw[if_pos (by simpa using h)]
  rfl
 subst hbb9
 refine sk fun ae s=>(wt (oM rfl (oS rfl (Yk.eqI (a:=((c).toNat:Nat)) (b:=(224:Nat)) f rfl (Ds _ _ _ _) (oM rfl (Ac (B8 (c)) rfl rfl (gT (vr (.bool (decide ((224)≤((c).toNat)))) rfl)) (fun hG12=>Yk.move f ⟨rfl,rfl⟩) (Ac (.bool (decide (((c).toNat)<(240)))) rfl rfl (gT (vr (.bool (decide ((224)≤((c).toNat)))) rfl)) (fun hG13=>Yk.eqI (a:=(((c).toNat:Nat):Int)) (b:=((240:Nat):Int)) (Ak (vr (cond ((decide ((224)≤((c).toNat)))) (B8 (c)) undef) rfl) hG13) (vr (B8 (240)) rfl) (AX _ .u8 ((c).toNat) (240)) ⟨rfl,rfl⟩) (oS rfl (Yk.pickAndN (vr (.bool (decide ((224)≤((c).toNat)))) rfl) (fun hA=>(Ak (vr (cond ((decide ((224)≤((c).toNat)))) (.bool (decide (((c).toNat)<(240)))) undef) rfl) hA)) (vr (.bool (false)) rfl) fun bb14 hbb15=>(oA rfl (oZ (tN (s _ _ ?_)))))))))))))
 refine AW (bb14) (vr (.bool (bb14)) rfl) (fun i=> ?_) (fun i=> ?_)
 ·subst hbb15
  refine sk fun af t=>(wt (oM rfl (oS rfl (Yk.bin (xv:= .int .u8 (((c).toNat:Nat):Int)) (yv:= .int .u8 ((15:Nat):Int)) f rfl rfl (GO _ _ _ (c.toNat_lt) (by decide)) (oS rfl (Yk.convI u5 Ez (vr (.int .u8 ((((c).toNat)&&&(15):Nat):Int)) rfl) (C3 (((c).toNat)&&&(15)) (Nat.lt_of_le_of_lt Nat.and_le_right (by decide))) (oA rfl (oA rfl (oA rfl (oZ (tN (t _ _ (Am (AE (An (Aj (fn:=Tryz.f98) _ rfl [NI 2, .int .i32 ((((c).toNat)&&&(15):Nat):Int), .int .i32 ((2048:Nat):Int)] (.tuple #[NI 2, .int .i32 ((((c).toNat)&&&(15):Nat):Int), .int .i32 ((2048:Nat):Int)]) rfl ⟨rfl,rfl,rfl,trivial⟩ ?_))))))))))))))))
  refine⟨congrArg Ending.returned ?_,hE⟩
  unfold B0
  rw[if_neg g]
  rw[if_neg (by simpa using h)]
  rw[if_pos (by simpa using i)]
  rfl
 subst hbb15
 refine sk fun ag u=>(wt (oM rfl (oS rfl (Yk.eqI (a:=((c).toNat:Nat)) (b:=(240:Nat)) f rfl (Ds _ _ _ _) (oM rfl (Ac (B8 (c)) rfl rfl (gT (vr (.bool (decide ((240)≤((c).toNat)))) rfl)) (fun hG18=>Yk.move f ⟨rfl,rfl⟩) (Ac (.bool (decide (((c).toNat)<(248)))) rfl rfl (gT (vr (.bool (decide ((240)≤((c).toNat)))) rfl)) (fun hG19=>Yk.eqI (a:=(((c).toNat:Nat):Int)) (b:=((248:Nat):Int)) (Ak (vr (cond ((decide ((240)≤((c).toNat)))) (B8 (c)) undef) rfl) hG19) (vr (B8 (248)) rfl) (AX _ .u8 ((c).toNat) (248)) ⟨rfl,rfl⟩) (oS rfl (Yk.pickAndN (vr (.bool (decide ((240)≤((c).toNat)))) rfl) (fun hA=>(Ak (vr (cond ((decide ((240)≤((c).toNat)))) (.bool (decide (((c).toNat)<(248)))) undef) rfl) hA)) (vr (.bool (false)) rfl) fun bb20 hbb21=>(oA rfl (oZ (tN (u _ _ ?_)))))))))))))
 refine AW (bb20) (vr (.bool (bb20)) rfl) (fun j=> ?_) (fun j=> ?_)
 ·subst hbb21
  refine sk fun ah v=>(wt (oM rfl (oS rfl (Yk.bin (xv:= .int .u8 (((c).toNat:Nat):Int)) (yv:= .int .u8 ((7:Nat):Int)) f rfl rfl (GO _ _ _ (c.toNat_lt) (by decide)) (oS rfl (Yk.convI u5 Ez (vr (.int .u8 ((((c).toNat)&&&(7):Nat):Int)) rfl) (C3 (((c).toNat)&&&(7)) (Nat.lt_of_le_of_lt Nat.and_le_right (by decide))) (oA rfl (oA rfl (oA rfl (oZ (tN (v _ _ (Am (AE (An (Aj (fn:=Tryz.f98) _ rfl [NI 3, .int .i32 ((((c).toNat)&&&(7):Nat):Int), .int .i32 ((65536:Nat):Int)] (.tuple #[NI 3, .int .i32 ((((c).toNat)&&&(7):Nat):Int), .int .i32 ((65536:Nat):Int)]) rfl ⟨rfl,rfl,rfl,trivial⟩ ?_))))))))))))))))
  refine⟨congrArg Ending.returned ?_,hE⟩
  unfold B0
  rw[if_neg g]
  rw[if_neg (by simpa using h)]
  rw[if_neg (by simpa using i)]
  rw[if_pos (by simpa using j)]
  rfl
 subst hbb21
 refine Aq (bN (tN (m _ _ (sk fun ai x=>(wt (oA rfl (oA rfl (oA rfl (oZ (tN (x _ _ (Am (Aj (fn:=Tryz.f98) _ rfl [.int .i64 (-1:Int), .int .i32 ((0:Nat):Int), .int .i32 ((0:Nat):Int)] (.tuple #[.int .i64 (-1:Int), .int .i32 ((0:Nat):Int), .int .i32 ((0:Nat):Int)]) rfl ⟨rfl,rfl,rfl,trivial⟩ ?_)))))))))))))
 refine⟨congrArg Ending.returned ?_,hE⟩
 unfold B0
 rw[if_neg g]
 rw[if_neg (by simpa using h)]
 rw[if_neg (by simpa using i)]
 rw[if_neg (by simpa using j)]
 rfl

theorem LR(w:World)(l:Bs)(a:Nat)(ha:a<l.length)(hl:l.length≤4611686018427387904):
  Calls Tryz.prog 89 #[St l,NI a] w fun e w' =>(∃r b k,e = .returned (.tuple #[.int .i32 ((r:Nat):Int),NI b, .bool k])∧CU l a=if k=true then some b else none)∧Ext w w' :=by
 refine As (args:= [St (l),NI a]) Tryz.func89 rfl 62 rfl (Nat.le_of_ble_eq_true rfl) ?_
 intro y hb
 have f:y 0=(St (l):Value):=hb.get 0
 have c:y 1=(NI a:Value):=hb.get 1
 clear hb
 have hE:=Ext.refl w
 refine sk fun K1 z=>(wt (oA rfl (oA rfl (oA rfl (oZ ?_)))))
 rcases hq:B0 (l.getD a 0)with _ | ⟨n,r,m⟩
 ·refine tN (z _ _ (sk fun K2 ab=>(wt (oM rfl (oM rfl (oS rfl (Yk.idxSt (l:=l) (i:=a) DT f c (ha) (oS rfl (Yk.callA1 Jw (vr (B8 (l.getD (a) 0)) rfl) (((show Calls _ _ _ _ (fun e t=>e = .returned (.tuple #[.int .i64 ((-1):Int), .int .i32 ((0:Nat):Int), .int .i32 ((0:Nat):Int)])∧Ext w t)from by have h:=La w (l.getD a 0);rw[hq]at h;exact h)).mono ?_))))))))))
  rintro e w4 ⟨rfl,ac⟩
  refine⟨_,rfl,?_⟩
  have hE:=hE.trans ac
  refine oM rfl (oS rfl (Yk.extract (vs:= [.int .i64 ((-1):Int), .int .i32 ((0:Nat):Int), .int .i32 ((0:Nat):Int)]) (vr (.tuple #[.int .i64 ((-1):Int), .int .i32 ((0:Nat):Int), .int .i32 ((0:Nat):Int)]) rfl) (show _=some (.int .i64 ((-1):Int):Value)from rfl) (oS rfl (Yk.extract (vs:= [.int .i64 ((-1):Int), .int .i32 ((0:Nat):Int), .int .i32 ((0:Nat):Int)]) (vr (.tuple #[.int .i64 ((-1):Int), .int .i32 ((0:Nat):Int), .int .i32 ((0:Nat):Int)]) rfl) (show _=some (.int .i32 ((0:Nat):Int):Value)from rfl) (oS rfl (Yk.extract (vs:= [.int .i64 ((-1):Int), .int .i32 ((0:Nat):Int), .int .i32 ((0:Nat):Int)]) (vr (.tuple #[.int .i64 ((-1):Int), .int .i32 ((0:Nat):Int), .int .i32 ((0:Nat):Int)]) rfl) (show _=some (.int .i32 ((0:Nat):Int):Value)from rfl) (oA rfl (oA rfl (oA rfl (oZ (tN (ab _ _ (sk fun K5 a5=>(sk fun K6 ad=>(wt (oM rfl (oS rfl (Yk.eqI (vr (.int .i64 ((-1):Int)) rfl) (vr (NI 0) rfl) (Kz _ .i64 ((-1):Int) ((0:Nat):Int)) (oM rfl (oN (d:=22) rfl rfl rfl (vr (.bool (true)) (congrArg Value.bool (decide_eq_true (by decide)))) rfl ?_))))))))))))))))))))
  refine oN (d:=22) rfl rfl rfl (vr (.bool (true)) (congrArg Value.bool (decide_eq_true (by decide)))) rfl (oN (d:=22) rfl rfl rfl (vr (.bool (true)) (congrArg Value.bool (decide_eq_true (by decide)))) rfl (oN (d:=22) rfl rfl rfl (vr (.bool (true)) (congrArg Value.bool (decide_eq_true (by decide)))) rfl (oN (d:=22) rfl rfl rfl (vr (.bool (true)) (congrArg Value.bool (decide_eq_true (by decide)))) rfl (oN (d:=22) rfl rfl rfl (vr (.bool (true)) (congrArg Value.bool (decide_eq_true (by decide)))) rfl (oS rfl (Yk.pickT (vr (.bool (true)) (congrArg Value.bool (decide_eq_true (by decide)))) (vr (.bool (true)) rfl) (oZ (tN (ad _ _ (wpF_true (vr (.bool (true)) rfl) (sk fun K7 ae=>(wt (oA rfl (oA rfl (oA rfl (oZ (tN (ae _ _ ?_))))))))))))))))))
  refine Am (An (Aj (fn:=Tryz.f89) _ rfl [.int .i32 ((0:Nat):Int),NI 0, .bool (false)] (.tuple #[.int .i32 ((0:Nat):Int),NI 0, .bool (false)]) rfl ⟨rfl,rfl,rfl,trivial⟩ ?_))
  exact⟨⟨_,_,_,rfl,Nu hq⟩,hE⟩
 obtain⟨aa,af,a8,hm⟩:=Iq hq
 refine tN (z _ _ (sk fun K8 ag=>(wt (oM rfl (oM rfl (oS rfl (Yk.idxSt (l:=l) (i:=a) DT f c (ha) (oS rfl (Yk.callA1 Jw (vr (B8 (l.getD (a) 0)) rfl) (((show Calls _ _ _ _ (fun e t=>e = .returned (.tuple #[NI n, .int .i32 ((r:Nat):Int), .int .i32 ((m:Nat):Int)])∧Ext w t)from by have h:=La w (l.getD a 0);rw[hq]at h;exact h)).mono ?_))))))))))
 rintro e ba ⟨rfl,ah⟩
 refine⟨_,rfl,?_⟩
 have hE:=hE.trans ah
 refine oM rfl (oS rfl (Yk.extract (vs:= [NI n, .int .i32 ((r:Nat):Int), .int .i32 ((m:Nat):Int)]) (vr (.tuple #[NI n, .int .i32 ((r:Nat):Int), .int .i32 ((m:Nat):Int)]) rfl) (show _=some (NI n:Value)from rfl) (oS rfl (Yk.extract (vs:= [NI n, .int .i32 ((r:Nat):Int), .int .i32 ((m:Nat):Int)]) (vr (.tuple #[NI n, .int .i32 ((r:Nat):Int), .int .i32 ((m:Nat):Int)]) rfl) (show _=some (.int .i32 ((r:Nat):Int):Value)from rfl) (oS rfl (Yk.extract (vs:= [NI n, .int .i32 ((r:Nat):Int), .int .i32 ((m:Nat):Int)]) (vr (.tuple #[NI n, .int .i32 ((r:Nat):Int), .int .i32 ((m:Nat):Int)]) rfl) (show _=some (.int .i32 ((m:Nat):Int):Value)from rfl) (oA rfl (oA rfl (oA rfl (oZ (tN (ag _ _ (sk fun bb ai=>(sk fun bc aj=>(wt (oM rfl (oS rfl (Yk.eqI (a:=(n:Nat)) (b:=(0:Nat)) rfl rfl (AX _ _ _ _) (oM rfl (oY (d:=22) rfl rfl (vr (.bool (false)) (congrArg Value.bool (decide_eq_false (by omega)))) (Yk.move f ?_)))))))))))))))))))))
 refine oY (d:=22) rfl rfl (vr (.bool (false)) (congrArg Value.bool (decide_eq_false (by omega)))) (Yk.lenSt (l:=l) DT (vr (St (l)) rfl) (oY (d:=22) rfl rfl (vr (.bool (false)) (congrArg Value.bool (decide_eq_false (by omega)))) (Yk.move c (oY (d:=22) rfl rfl (vr (.bool (false)) (congrArg Value.bool (decide_eq_false (by omega)))) (Yk.bin (xv:=NI l.length) (yv:=NI a) rfl rfl rfl (B5 _ _ _ (by omega) (by omega)) (oY (d:=22) rfl rfl (vr (.bool (false)) (congrArg Value.bool (decide_eq_false (by omega)))) (Yk.move (vr (NI n) rfl) (oY (d:=22) rfl rfl (vr (.bool (false)) (congrArg Value.bool (decide_eq_false (by omega)))) (Yk.eqI (a:=((l.length)-(a):Nat)) (b:=(n:Nat)) rfl rfl (Cs _ _ _ _) (oS rfl (Yk.pickF (vr (.bool (false)) (congrArg Value.bool (decide_eq_false (by omega)))) (vr (.bool (decide (((l.length)-(a))≤(n)))) rfl) (oZ (tN (aj _ _ ?_))))))))))))))
 refine AL (((l.length)-(a))≤(n)) (vr (.bool (decide (((l.length)-(a))≤(n)))) rfl) (fun u=> ?_) (fun u=> ?_)
 ·refine sk fun bd ak=>(wt (oA rfl (oA rfl (oA rfl (oZ (tN (ak _ _ (Am (An (Aj (fn:=Tryz.f89) _ rfl [.int .i32 ((0:Nat):Int),NI 0, .bool (false)] (.tuple #[.int .i32 ((0:Nat):Int),NI 0, .bool (false)]) rfl ⟨rfl,rfl,rfl,trivial⟩ ?_))))))))))
  exact⟨⟨_,_,_,rfl,MF hq (of_decide_eq_true (by simpa using u))⟩,hE⟩
 have hs:¬l.length-a≤n:=fun h=>by simp[h]at u
 refine Aq (tN (ai _ _ (sk fun be al=>(sk fun bf am=>(wt (oM rfl (oM rfl (A3 [(0,St (l)),(1,NI a),(4, .int .i32 ((0:Nat):Int)),(5,NI 0),(6, .bool (false)),(7,NI n),(8, .int .i32 ((r:Nat):Int)),(9, .int .i32 ((m:Nat):Int)),(30,NI n),(31,NI 0)] ⟨f,c,rfl,rfl,rfl,rfl,rfl,rfl,rfl,rfl,trivial⟩ fun bg ⟨f,c,T4,T5,T6,o,j,p,s,g,_⟩=>(tN (am _ _ (Av (A4 (fun(ρ:Au) (wz:World)=>∃i:Nat,∃q:Nat,ρ 0=(St (l):Value)∧ρ 1=(NI a:Value)∧ρ 7=(NI n:Value)∧ρ 9=(.int .i32 ((m:Nat):Int):Value)∧ρ 30=(NI n:Value)∧ρ 31=(NI i:Value)∧ρ 8=(.int .i32 ((q:Nat):Int):Value)∧Ext w wz∧(i≤n)∧(q<2^(7+6*i))∧(C0 l (a+1) n r=C0 l (a+1+i) (n-i) q)∧True) (fun ρ _=>n-(intOf (ρ 31)).toNat) ⟨0,r,f,c,o,p,s,g,j,hE,Nat.zero_le _,af,rfl,trivial⟩ ?_))))))))))))
 clear hE
 rintro an bk ⟨i,q,f,c,o,p,s,g,j,hE,hi,hqb,ht,-⟩
 have q31:=g
 refine sk fun bm ao=>(wt (oS rfl (Yk.eqI (a:=(i:Nat)) (b:=(n:Nat)) g s (AX _ _ _ _) (oZ (tN (ao _ _ (sk fun bn ap=> ?_)))))))
 refine AL ((i)<(n)) (vr (.bool (decide ((i)<(n)))) rfl) (fun v=> ?_) (fun v=> ?_)
 ·have hlt:i<n:=v
  refine Aq (tN (ap _ _ (sk fun bo aq=>(Av (sk fun bp ar=>(wt (oM rfl (oA rfl (oZ (tN (ar _ _ (sk fun bq au=>(wt (oM rfl (oM rfl (oS rfl (Yk.bin (xv:=NI a) (yv:=NI 1) c rfl rfl (AA _ _ _ (by omega)) (oM rfl ?_))))))))))))))))))
  refine oS rfl (Yk.bin (xv:=NI ((a)+(1))) (yv:=NI i) rfl g rfl (AA _ _ _ (by omega)) (oS rfl (Yk.idxSt (l:=l) (i:=((a)+(1))+(i)) DT f (vr (NI (((a)+(1))+(i))) rfl) (by omega) (oA rfl (oZ (tN (au _ _ (sk fun br av=>(sk fun bs aw=>(wt (oM rfl (oS rfl (Yk.bin (xv:= .int .u8 (((l.getD (((a)+(1))+(i)) 0).toNat:Nat):Int)) (yv:= .int .u8 ((192:Nat):Int)) rfl rfl rfl (GO _ _ _ (UInt8.toNat_lt _) (by decide)) (oS rfl (Yk.eqI (a:=(((l.getD (((a)+(1))+(i)) 0).toNat)&&&(192):Nat)) (b:=(128:Nat)) rfl rfl (BO _ _ _ _) (oZ (tN (aw _ _ ?_))))))))))))))))))
  refine AL ((((l.getD (((a)+(1))+(i)) 0).toNat)&&&(192):Nat)≠(128)) (vr (.bool (decide ((((l.getD (((a)+(1))+(i)) 0).toNat)&&&(192):Nat)≠(128)))) rfl) (fun x=> ?_) (fun x=> ?_)
  ·refine sk fun bt ax=>(wt (oA rfl (oA rfl (oA rfl (oZ (tN (ax _ _ (Am (An (AE (An (An (AE (An (Aj (fn:=Tryz.f89) _ rfl [.int .i32 ((0:Nat):Int),NI 0, .bool (false)] (.tuple #[.int .i32 ((0:Nat):Int),NI 0, .bool (false)]) rfl ⟨rfl,rfl,rfl,trivial⟩ ?_)))))))))))))))
   exact⟨⟨_,_,_,rfl,Pn hq (ht.trans (Nt hlt x))⟩,hE⟩
  refine Aq (tN (av _ _ (wt (oM rfl (oS rfl (Yk.bin (xv:= .int .i32 ((q:Nat):Int)) (yv:= .int .u64 ((6:Nat):Int)) j rfl rfl (Qn _ (q) _ (6) (by decide) (HH hqb hlt aa)) (oM rfl (oS rfl (Yk.bin (xv:= .int .u8 (((l.getD (((a)+(1))+(i)) 0).toNat:Nat):Int)) (yv:= .int .u8 ((63:Nat):Int)) rfl rfl rfl (GO _ _ _ (UInt8.toNat_lt _) (by decide)) (oS rfl (Yk.convI u5 Ez (vr (.int .u8 ((((l.getD (((a)+(1))+(i)) 0).toNat)&&&(63):Nat):Int)) rfl) (C3 (((l.getD (((a)+(1))+(i)) 0).toNat)&&&(63)) (P5 _)) (oS rfl (Yk.bin (xv:= .int .i32 (((q)*2^(6):Nat):Int)) (yv:= .int .i32 ((((l.getD (((a)+(1))+(i)) 0).toNat)&&&(63):Nat):Int)) rfl rfl rfl (QZ _ ((q)*2^(6)) (((l.getD (((a)+(1))+(i)) 0).toNat)&&&(63)) (HH hqb hlt aa) (P5 _)) (oA rfl (oZ (bN (tN (aq _ _ (wt (oS rfl (Yk.bin (xv:=NI i) (yv:=NI 1) g rfl rfl (AA _ _ _ (by omega)) (oM rfl ?_))))))))))))))))))))))
  refine A3 [(0,St (l)),(1,NI a),(7,NI n),(8, .int .i32 ((((q)*2^(6))|||(((l.getD (((a)+(1))+(i)) 0).toNat)&&&(63)):Nat):Int)),(9, .int .i32 ((m:Nat):Int)),(10,NI i),(11,B8 (l.getD (((a)+(1))+(i)) 0)),(30,NI n),(31,NI ((i)+(1)))] ⟨f,c,o,rfl,p,g,rfl,s,rfl,trivial⟩ fun ay ⟨f,c,o,j,p,bu,bv,s,g,_⟩=>(tN (And.intro ⟨i+1,(q*2^6|||((l.getD (a+1+i) 0).toNat&&&63)),f,c,o,p,s,g,j,hE,by omega,LQ hqb,ht.trans (ME hlt (Decidable.of_not_not x)),trivial⟩ ?_))
  show n-(intOf (ay 31)).toNat<n-(intOf (an 31)).toNat
  rw[g,q31]
  simp only[intOf,Int.toNat_natCast];omega
 have hni:¬i<n:=v
 refine AP (Ar (Ar (Az (tN (al _ _ (sk fun bw az=>(wt (oM rfl (oM rfl (oM rfl (oS rfl (Yk.bin (xv:=NI a) (yv:=NI n) c o rfl (AA _ _ _ (by omega)) (oS rfl (Yk.bin (xv:=NI ((a)+(n))) (yv:=NI 1) rfl rfl rfl (AA _ _ _ (by omega)) (oM rfl (oM rfl (oS rfl (Yk.eqI (a:=(q:Nat)) (b:=(m:Nat)) j p (Ds _ _ _ _) (oM rfl (Ac (.int .i32 ((q:Nat):Int)) rfl rfl (gT (vr (.bool (decide ((m)≤(q)))) rfl)) (fun hG29=>Yk.move j ⟨rfl,rfl⟩) (BF (.bool (Dh q)) rfl rfl (gT (vr (.bool (decide ((m)≤(q)))) rfl)) (fun hG30=>Yk.callA1 Nx (Ak (vr (cond ((decide ((m)≤(q)))) (.int .i32 ((q:Nat):Int)) undef) rfl) hG30) ((Qq _ q).mono (by rintro e t ⟨rfl,hx⟩;exact⟨_,rfl,rfl,hx⟩))) fun bx a0=> ?_)))))))))))))))))))))
 have hE:=hE.trans a0
 refine oS rfl (Yk.pickAndN (vr (.bool (decide ((m)≤(q)))) rfl) (fun hA=>(Ak (vr (cond ((decide ((m)≤(q)))) (.bool (Dh q)) undef) rfl) hA)) (vr (.bool (false)) rfl) fun bb34 hbb35=>(oA rfl (oA rfl (oA rfl (oZ (tN (az _ _ (Am (Aj (fn:=Tryz.f89) _ rfl [.int .i32 ((q:Nat):Int),NI (((a)+(n))+(1)), .bool (bb34)] (.tuple #[.int .i32 ((q:Nat):Int),NI (((a)+(n))+(1)), .bool (bb34)]) rfl ⟨j,rfl,rfl,trivial⟩ ?_)))))))))
 subst hbb35
 exact⟨⟨_,_,_,rfl,Qp hq hs (ht.trans (by rw[show n-i=0 by omega];rfl))⟩,hE⟩

theorem Jy(w:World)(l:Bs)(hl:l.length≤4611686018427387904):
  Calls Tryz.prog 77 #[St l] w fun e w' =>(∃p,e = .returned (.tuple #[NI p,NI (if CI l 0=true then 0 else 5)]))∧Ext w w' :=by
 refine As (args:= [St (l)]) Tryz.func77 rfl 22 rfl (Nat.le_of_ble_eq_true rfl) ?_
 intro i hb
 have c:i 0=(St (l):Value):=hb.get 0
 clear hb
 have hE:=Ext.refl w
 refine sk fun K1 j=>(wt (oA rfl (oA rfl (A3 [(0,St (l)),(2,NI 0),(3,NI 0)] ⟨c,rfl,rfl,trivial⟩ fun ab ⟨c,f,T3,_⟩=>(tN (j _ _ (sk fun K3 m=>(Av (A4 (fun(ρ:Au) (wz:World)=>∃p:Nat,ρ 0=(St (l):Value)∧ρ 2=(NI p:Value)∧Ext w wz∧(p≤l.length)∧(CI l 0=CI l p)∧True) (fun ρ _=>l.length-(intOf (ρ 2)).toNat) ⟨0,c,f,hE,Nat.zero_le _,rfl,trivial⟩ ?_)))))))))
 clear hE
 rintro n w5 ⟨p,c,f,hE,hp,ht,-⟩
 have q2:=f
 refine sk fun K6 o=>(sk fun K7 q=>(wt (oM rfl (oM rfl (oS rfl (Yk.lenSt (l:=l) DT c (oS rfl (Yk.eqI (a:=(p:Nat)) (b:=(l.length:Nat)) f rfl (AX _ _ _ _) (oZ (tN (q _ _ ?_)))))))))))
 refine AL ((p)<(l.length)) (vr (.bool (decide ((p)<(l.length)))) rfl) (fun g=> ?_) (fun g=> ?_)
 ·have hlt:p<l.length:=g
  refine Aq (tN (o _ _ (Av (sk fun K8 s=>(wt (oM rfl (oM rfl (oS rfl (Yk.callA2 Ny c f ((LR _ l p hlt hl).mono ?_))))))))))
  rintro e ai ⟨⟨r,b,k,rfl,hd⟩,t⟩
  refine⟨_,rfl,?_⟩
  have hE:=hE.trans t
  refine oM rfl (oS rfl (Yk.extract (vs:= [.int .i32 ((r:Nat):Int),NI b, .bool (k)]) (vr (.tuple #[.int .i32 ((r:Nat):Int),NI b, .bool (k)]) rfl) (show _=some (.int .i32 ((r:Nat):Int):Value)from rfl) (oS rfl (Yk.extract (vs:= [.int .i32 ((r:Nat):Int),NI b, .bool (k)]) (vr (.tuple #[.int .i32 ((r:Nat):Int),NI b, .bool (k)]) rfl) (show _=some (NI b:Value)from rfl) (oS rfl (Yk.extract (vs:= [.int .i32 ((r:Nat):Int),NI b, .bool (k)]) (vr (.tuple #[.int .i32 ((r:Nat):Int),NI b, .bool (k)]) rfl) (show _=some (.bool (k):Value)from rfl) (oA rfl (oA rfl (oA rfl (oZ (tN (s _ _ (sk fun aj u=>(sk fun ak v=>(wt (oM rfl (oS rfl (Yk.notB (vr (.bool (k)) rfl) (oZ (tN (v _ _ ?_)))))))))))))))))))))
  refine AW (!(k)) (vr (.bool (!(k))) rfl) (fun h=> ?_) (fun h=> ?_)
  ·have hk:k=false:=by simpa using h
   rw[hk,if_neg (by decide)]at hd
   refine sk fun al x=>(wt (oM rfl (oA rfl (oA rfl (oZ (tN (x _ _ (Am (An (AE (An (AE (An (Aj (fn:=Tryz.f77) _ rfl [NI p,NI 5] (.tuple #[NI p,NI 5]) rfl ⟨f,rfl,trivial⟩ ?_))))))))))))))
   exact⟨⟨_,by rw[ht,Js hlt hd];rfl⟩,hE⟩
  have hk:k=true:=by simpa using h
  rw[if_pos hk]at hd
  refine Aq (tN (u _ _ (wt (oM rfl (oA rfl (A3 [(0,St (l)),(2,NI b),(5,NI b),(6, .bool (k))] ⟨c,rfl,rfl,rfl,trivial⟩ fun y ⟨c,f,T5,T6,_⟩=>(bN (tN (And.intro ⟨b,c,f,hE,(I8 hd).2,ht.trans (GT hlt hd),trivial⟩ ?_)))))))))
  show l.length-(intOf (y 2)).toNat<l.length-(intOf (n 2)).toNat
  rw[f,q2]
  have:=I8 hd;simp only[intOf,Int.toNat_natCast];omega
 have hlt:=g
 refine AP (Ar (Ar (Az (tN (m _ _ (sk fun ao z=>(wt (oA rfl (oA rfl (oZ (tN (z _ _ (Am (Aj (fn:=Tryz.f77) _ rfl [NI 0,NI 0] (.tuple #[NI 0,NI 0]) rfl ⟨rfl,rfl,trivial⟩ ?_))))))))))))))
 exact⟨⟨_,by rw[ht,Gc (show ¬p<l.length by omega)];rfl⟩,hE⟩

theorem Lb(w:World)(r:Nat):
  Calls Tryz.prog 63 #[.int .i32 (r:Int)] w fun e w' =>e = .returned (.bool true)∧Ext w w' :=by
 refine As (args:= [.int .i32 ((r:Nat):Int)]) Tryz.func63 rfl 3 rfl (Nat.le_of_ble_eq_true rfl) ?_
 intro a hb
 have f:a 0=(.int .i32 ((r:Nat):Int):Value):=hb.get 0
 clear hb
 have hE:=Ext.refl w
 refine sk fun g b=>(wt (oA rfl (oZ (tN (b _ _ (sk fun h c=>(wt (oA rfl (oZ (tN (c _ _ (Am (Aj (fn:=Tryz.f63) _ rfl [.bool (true)] (.bool (true)) rfl ⟨rfl,trivial⟩ ?_)))))))))))))
 exact⟨rfl,hE⟩

theorem NB(w:World)(l:Bs)(hl:l.length≤4611686018427387904):
  Calls Tryz.prog 62 #[St l, .func (.func 63) #[] #[]] w fun e w' =>e = .returned (.bool (CI l 0))∧Ext w w' :=by
 refine As (args:= [St (l), .func (.func 63) #[] #[]]) Tryz.func62 rfl 25 rfl (Nat.le_of_ble_eq_true rfl) ?_
 intro r hb
 have c:r 0=(St (l):Value):=hb.get 0
 have i:r 1=(.func (.func 63) #[] #[]:Value):=hb.get 1
 clear hb
 have hE:=Ext.refl w
 refine sk fun K1 s=>(wt (oA rfl (oZ ?_)))
 rcases hT:CI l 0 with _ | _
 ·refine tN (s _ _ (sk fun K2 az=>(sk fun K3 aa=>(wt (oM rfl (oS rfl (Yk.callA1 Jx c (((show Calls _ _ _ _ (fun e o=>(∃p,e = .returned (.tuple #[NI p,NI 5]))∧Ext w o)from by have h:=Jy w l hl;rw[hT]at h;exact h)).mono ?_))))))))
  rintro e w5 ⟨⟨p0,rfl⟩,ab⟩
  refine⟨_,rfl,?_⟩
  have hE:=hE.trans ab
  refine oM rfl (oS rfl (Yk.extract (vs:= [NI p0,NI 5]) (vr (.tuple #[NI p0,NI 5]) rfl) (show _=some (NI p0:Value)from rfl) (oS rfl (Yk.extract (vs:= [NI p0,NI 5]) (vr (.tuple #[NI p0,NI 5]) rfl) (show _=some (NI 5:Value)from rfl) (oA rfl (oA rfl (oZ (tN (aa _ _ (sk fun K6 ac=>(wt (oM rfl (oS rfl (Yk.eqI (a:=(5:Nat)) (b:=(0:Nat)) rfl rfl (BO _ _ _ _) (oZ (tN (ac _ _ (wpF_true (vr (.bool (true)) (congrArg Value.bool (decide_eq_true (by decide)))) (sk fun K7 ad=>(wt ?_))))))))))))))))))))
  refine oA rfl (oZ (tN (ad _ _ (Am (An (Aj (fn:=Tryz.f62) _ rfl [.bool (false)] (.bool (false)) rfl ⟨rfl,trivial⟩ ?_))))))
  exact⟨by rw[hT],hE⟩
 refine tN (s _ _ (sk fun K8 ae=>(sk fun K9 af=>(wt (oM rfl (oS rfl (Yk.callA1 Jx c (((show Calls _ _ _ _ (fun e o=>(∃p,e = .returned (.tuple #[NI p,NI 0]))∧Ext w o)from by have h:=Jy w l hl;rw[hT]at h;exact h)).mono ?_))))))))
 rintro e t ⟨⟨p0,rfl⟩,ag⟩
 refine⟨_,rfl,?_⟩
 have hE:=hE.trans ag
 refine oM rfl (oS rfl (Yk.extract (vs:= [NI p0,NI 0]) (vr (.tuple #[NI p0,NI 0]) rfl) (show _=some (NI p0:Value)from rfl) (oS rfl (Yk.extract (vs:= [NI p0,NI 0]) (vr (.tuple #[NI p0,NI 0]) rfl) (show _=some (NI 0:Value)from rfl) (oA rfl (oA rfl (oZ (tN (af _ _ (sk fun a6 ah=>(wt (oM rfl (oS rfl (Yk.eqI (a:=(0:Nat)) (b:=(0:Nat)) rfl rfl (BO _ _ _ _) (oZ (tN (ah _ _ (AH (vr (.bool (false)) (congrArg Value.bool (decide_eq_false (by decide)))) (Aq (tN (ae _ _ ?_)))))))))))))))))))))
 refine sk fun a7 ai=>(sk fun a8 aj=>(wt (oM rfl (oS rfl (Yk.rangeSt (l:=l) DT c fun j ak a9 u v ba=> ?_)))))
 have f:=Ext.refl t
 have al:=hE.size
 have hE:=hE.trans v
 have f:=f.trans v
 have x:=u;clear u
 have bb:j<ak.heap.size:=by omega
 refine A3 [(0,St (l)),(1, .func (.func 63) #[] #[]),(4, .bool (false)),(6,NI 0),(15, .bool (false)),(17,PQ j 0)] ⟨c,i,rfl,rfl,(congrArg Value.bool (decide_eq_false (by decide))),rfl,trivial⟩ fun bc ⟨c,i,T4,m,n,k,_⟩=>(tN (aj _ _ (Av (A4 (fun(ρ:Au) (wz:World)=>∃p:Nat,ρ 0=(St (l):Value)∧ρ 1=(.func (.func 63) #[] #[]:Value)∧ρ 6=(NI 0:Value)∧ρ 15=(.bool (false):Value)∧ρ 17=(PQ j 0:Value)∧Ext w wz∧Ext t wz∧wz.heap[j]? =some (.stringIter ⟨l.toArray⟩ p)∧True) (fun ρ wz=>l.length-wz.iterPos j) ⟨0,c,i,m,n,k,hE,f,x,trivial⟩ ?_))))
 clear x
 clear hE f
 rintro be am ⟨p,c,i,m,n,k,hE,f,hI,-⟩
 have hI0:=Io hI
 by_cases hlt:p<l.length
 ·refine sk fun bf an=>(wt (oS rfl (Yk.nextSt (l:=l) (p:=p) k hI hlt fun ao g bg bh y z bi=> ?_)))
  have hE:=Af hE z (Nat.le_trans al (by omega))
  have f:=Af f z (Nat.le_trans (Nat.le_refl _) (by omega))
  clear hI
  have hI:=y;clear y
  have bj:=bl hI
  refine oS rfl (Yk.extract (vs:= [.bool (true),NI p, .int .i32 ((g:Nat):Int)]) (vr (.tuple #[.bool (true),NI p, .int .i32 ((g:Nat):Int)]) rfl) (show _=some (.bool (true):Value)from rfl) (oZ (tN (an _ _ (sk fun bk ap=>(wpF_true (vr (.bool (true)) rfl) (Aq (tN (ap _ _ (Av (sk fun bm aq=>(wt (oS rfl (Yk.extract (vs:= [.bool (true),NI p, .int .i32 ((g:Nat):Int)]) (vr (.tuple #[.bool (true),NI p, .int .i32 ((g:Nat):Int)]) rfl) (show _=some (.int .i32 ((g:Nat):Int):Value)from rfl) (oA rfl (oZ (tN (aq _ _ (sk fun bn ar=>(wt ?_))))))))))))))))))))
  refine oM rfl (oM rfl (oS rfl (Yk.clo Nz (caps:= #[]) i #[.int .i32 ((g:Nat):Int)] (by simp only[List.map_toArray,List.map_cons,List.map_nil,List.append_toArray,List.cons_append,List.nil_append];exact congrArg List.toArray (KA (vr (.int .i32 ((g:Nat):Int)) rfl))) ((Lb _ g).mono ?_))))
  rintro e au ⟨rfl,q⟩
  refine⟨_,rfl,?_⟩
  have hE:=hE.trans q
  have f:=f.trans q
  have hI:=eb q hI
  refine oS rfl (Yk.notB (vr (.bool (true)) rfl) (oZ (tN (ar _ _ (AH (vr (.bool (false)) rfl) (Aq (bN (LO [(0,St (l)),(1, .func (.func 63) #[] #[]),(6,NI 0),(8, .int .i32 ((g:Nat):Int)),(15, .bool (false)),(17,PQ j 0),(18, .tuple #[.bool (true),NI p, .int .i32 ((g:Nat):Int)]),(19, .bool (true)),(24, .bool (false))] ⟨c,i,m,rfl,n,k,rfl,rfl,rfl,trivial⟩ fun bo ⟨c,i,m,T8,n,k,bq,br,bs,_⟩=>(tN (And.intro ⟨ao,c,i,m,n,k,hE,f,hI,trivial⟩ ?_))))))))))
  show l.length-au.iterPos j<l.length-am.iterPos j
  rw[Io hI,hI0];omega
 refine sk fun bt av=>(wt (oS rfl (Yk.nextEnd (l:=l) (p:=p) k hI hlt (oS rfl (Yk.extract (vs:= [.bool (false)]) (vr (.tuple #[.bool (false)]) rfl) (show _=some (.bool (false):Value)from rfl) (oZ (tN (av _ _ (sk fun bu bv=>(AH (vr (.bool (false)) rfl) (AP (Ar (Ar (Az (tN (ai _ _ (sk fun bw aw=>(wt (oA rfl (oZ (tN (aw _ _ (Am ?_)))))))))))))))))))))))
 refine Aj (fn:=Tryz.f62) _ rfl [.bool (true)] (.bool (true)) rfl ⟨rfl,trivial⟩ ?_
 exact⟨by rw[hT],hE⟩

theorem Lc(w:World)(l:Bs):
  Calls Tryz.prog 36 #[St l] w fun e w' =>e = .returned (.bool (BL l))∧Ext w w' :=by
 refine As (args:= [St (l)]) Tryz.func36 rfl 10 rfl (Nat.le_of_ble_eq_true rfl) ?_
 intro f hb
 have c:f 0=(St (l):Value):=hb.get 0
 clear hb
 have hE:=Ext.refl w
 refine sk fun j g=>(wt (oA rfl (oZ (tN (g _ _ (sk fun k h=>(wt (oM rfl (oS rfl (Yk.lenSt (l:=l) DT c (oS rfl (Yk.eqI (a:=(l.length:Nat)) (b:=(256:Nat)) rfl rfl (Cs _ _ _ _) (oM rfl (Ac (St (l)) rfl rfl (gT (vr (.bool (decide ((l.length)≤(256)))) rfl)) (fun hG3=>Yk.move c ⟨rfl,rfl⟩) (BF (.bool (CI l 0)) rfl rfl (gT (vr (.bool (decide ((l.length)≤(256)))) rfl)) (fun hG4=>Yk.callA2 NA (Ak (vr (cond ((decide ((l.length)≤(256)))) (St (l)) undef) rfl) hG4) rfl ((NB _ l (by simp only[gA,gB,gC,gD,gE]at hG4;omega)).mono (by rintro e m ⟨rfl,hx⟩;exact⟨_,rfl,rfl,hx⟩))) fun n i=> ?_)))))))))))))))
 have hE:=hE.trans i
 refine oS rfl (Yk.pickAndN (vr (.bool (decide ((l.length)≤(256)))) rfl) (fun hA=>(Ak (vr (cond ((decide ((l.length)≤(256)))) (.bool (CI l 0)) undef) rfl) hA)) (vr (.bool (false)) rfl) fun bb8 hbb9=>(oA rfl (oZ (tN (h _ _ (Am (Aj (fn:=Tryz.f36) _ rfl [.bool (bb8)] (.bool (bb8)) rfl ⟨rfl,trivial⟩ ?_)))))))
 subst hbb9
 exact⟨rfl,hE⟩
open Go.RowKit
set_option maxRecDepth 100000
theorem Po:AI Tryz.prog 60:=fun _ _=>by kernel_rfl
theorem Pp:AI Tryz.prog 61:=fun _ _=>by kernel_rfl
theorem H9{d:Option Tmp}{ty:TypeId}{pos:String}{af:Array Edge}{gd:Option (Nat × Bool)}(σ:Operand→Value)(w:World):(execOp σ ⟨d, .alloc 24,ty,pos,af,gd⟩).run Tryz.prog w = .ok (.value (PQ w.heap.size 0)) (w.alloc (.cells (Lib.byteCells (List.replicate 32 0)).toArray 24)):=by kernel_rfl
theorem Pq:AI Tryz.prog 64:=fun _ _=>by kernel_rfl
theorem Pr(w:World)(c:UInt8):
  Calls Tryz.prog 61 #[B8 c] w fun e w' =>e = .returned (.bool (ER c))∧Ext w w' :=by
 refine As (args:= [B8 (c)]) Tryz.func61 rfl 37 rfl (Nat.le_of_ble_eq_true rfl) ?_
 intro g hb
 have f:g 0=(B8 (c):Value):=hb.get 0
 clear hb
 have hE:=Ext.refl w
 refine sk fun j h=>(wt (oA rfl (oZ (tN (h _ _ (sk fun k i=>(wt (oM rfl (oS rfl (Yk.eqI (a:=((c).toNat:Nat)) (b:=(97:Nat)) f rfl (Ds _ _ _ _) (oM rfl (Ac (B8 (c)) rfl rfl (gT (vr (.bool (decide ((97)≤((c).toNat)))) rfl)) (fun hG3=>Yk.move f ⟨rfl,rfl⟩) (Ac (.bool (decide (((c).toNat)≤(122)))) rfl rfl (gT (vr (.bool (decide ((97)≤((c).toNat)))) rfl)) (fun hG4=>Yk.eqI (a:=(((c).toNat:Nat):Int)) (b:=((122:Nat):Int)) (Ak (vr (cond ((decide ((97)≤((c).toNat)))) (B8 (c)) undef) rfl) hG4) (vr (B8 (122)) rfl) (Cs _ .u8 ((c).toNat) (122)) ⟨rfl,rfl⟩) (oS rfl (Yk.pickAndN (vr (.bool (decide ((97)≤((c).toNat)))) rfl) (fun hA=>(Ak (vr (cond ((decide ((97)≤((c).toNat)))) (.bool (decide (((c).toNat)≤(122)))) undef) rfl) hA)) (vr (.bool (false)) rfl) fun bb5 hbb6=>(oM rfl (Ac (B8 (c)) rfl rfl (gF (vr (.bool (bb5)) rfl)) (fun hG7=>Yk.move f ⟨rfl,rfl⟩) (Ac (.bool (decide ((65)≤((c).toNat)))) rfl rfl (gF (vr (.bool (bb5)) rfl)) (fun hG8=>Yk.eqI (a:=(((c).toNat:Nat):Int)) (b:=((65:Nat):Int)) (Ak (vr (cond (!bb5) (B8 (c)) undef) rfl) hG8) (vr (B8 (65)) rfl) (Ds _ .u8 ((c).toNat) (65)) ⟨rfl,rfl⟩) ?_))))))))))))))))))
 refine Ac (.bool (decide ((65)≤((c).toNat)))) rfl rfl (gF (vr (.bool (bb5)) rfl)) (fun hG9=>Yk.move (Ak (vr (cond (!bb5) (.bool (decide ((65)≤((c).toNat)))) undef) rfl) hG9) ⟨rfl,rfl⟩) (Ac (B8 (c)) rfl rfl (Cc (vr (cond (!bb5) (.bool (decide ((65)≤((c).toNat)))) undef) rfl)) (fun hG10=>Yk.move f ⟨rfl,rfl⟩) (Ac (.bool (decide (((c).toNat)≤(90)))) rfl rfl (Cc (vr (cond (!bb5) (.bool (decide ((65)≤((c).toNat)))) undef) rfl)) (fun hG11=>Yk.eqI (a:=(((c).toNat:Nat):Int)) (b:=((90:Nat):Int)) (Ak (vr (cond ((!bb5)&&(decide ((65)≤((c).toNat)))) (B8 (c)) undef) rfl) hG11) (vr (B8 (90)) rfl) (Cs _ .u8 ((c).toNat) (90)) ⟨rfl,rfl⟩) (Cv ((decide ((65)≤((c).toNat)))&&(decide (((c).toNat)≤(90)))) rfl rfl (gF (vr (.bool (bb5)) rfl)) (fun hG12=>Yk.pickAnd (Ak (vr (cond (!bb5) (.bool (decide ((65)≤((c).toNat)))) undef) rfl) hG12) (fun hA=>(Ak (vr (cond ((!bb5)&&(decide ((65)≤((c).toNat)))) (.bool (decide (((c).toNat)≤(90)))) undef) rfl) (Du hG12 hA))) (vr (.bool (false)) rfl) ⟨rfl,rfl⟩) fun bb13 hbb14=>(oS rfl (Yk.pickOrN (vr (.bool (bb5)) rfl) (vr (.bool (true)) rfl) (fun hA=>(Ak (vr (cond (!bb5) (.bool (bb13)) undef) rfl) (Bb hA))) fun bb15 hbb16=>(oM rfl (Ac (B8 (c)) rfl rfl (gF (vr (.bool (bb15)) rfl)) (fun hG17=>Yk.move f ⟨rfl,rfl⟩) (Ac (.bool (decide ((48)≤((c).toNat)))) rfl rfl (gF (vr (.bool (bb15)) rfl)) (fun hG18=>Yk.eqI (a:=(((c).toNat:Nat):Int)) (b:=((48:Nat):Int)) (Ak (vr (cond (!bb15) (B8 (c)) undef) rfl) hG18) (vr (B8 (48)) rfl) (Ds _ .u8 ((c).toNat) (48)) ⟨rfl,rfl⟩) (Ac (.bool (decide ((48)≤((c).toNat)))) rfl rfl (gF (vr (.bool (bb15)) rfl)) (fun hG19=>Yk.move (Ak (vr (cond (!bb15) (.bool (decide ((48)≤((c).toNat)))) undef) rfl) hG19) ⟨rfl,rfl⟩) (Ac (B8 (c)) rfl rfl (Cc (vr (cond (!bb15) (.bool (decide ((48)≤((c).toNat)))) undef) rfl)) (fun hG20=>Yk.move f ⟨rfl,rfl⟩) (Ac (.bool (decide (((c).toNat)≤(57)))) rfl rfl (Cc (vr (cond (!bb15) (.bool (decide ((48)≤((c).toNat)))) undef) rfl)) (fun hG21=>Yk.eqI (a:=(((c).toNat:Nat):Int)) (b:=((57:Nat):Int)) (Ak (vr (cond ((!bb15)&&(decide ((48)≤((c).toNat)))) (B8 (c)) undef) rfl) hG21) (vr (B8 (57)) rfl) (Cs _ .u8 ((c).toNat) (57)) ⟨rfl,rfl⟩) (Cv ((decide ((48)≤((c).toNat)))&&(decide (((c).toNat)≤(57)))) rfl rfl (gF (vr (.bool (bb15)) rfl)) (fun hG22=>Yk.pickAnd (Ak (vr (cond (!bb15) (.bool (decide ((48)≤((c).toNat)))) undef) rfl) hG22) (fun hA=>(Ak (vr (cond ((!bb15)&&(decide ((48)≤((c).toNat)))) (.bool (decide (((c).toNat)≤(57)))) undef) rfl) (Du hG22 hA))) (vr (.bool (false)) rfl) ⟨rfl,rfl⟩) fun bb23 hbb24=>(oS rfl (Yk.pickOrN (vr (.bool (bb15)) rfl) (vr (.bool (true)) rfl) (fun hA=>(Ak (vr (cond (!bb15) (.bool (bb23)) undef) rfl) (Bb hA))) fun bb25 hbb26=> ?_))))))))))))))
 refine oM rfl (Ac (B8 (c)) rfl rfl (gF (vr (.bool (bb25)) rfl)) (fun hG27=>Yk.move f ⟨rfl,rfl⟩) (Ac (.bool (decide (((c).toNat:Nat)=(45)))) rfl rfl (gF (vr (.bool (bb25)) rfl)) (fun hG28=>Yk.eqI (a:=(((c).toNat:Nat):Int)) (b:=((45:Nat):Int)) (Ak (vr (cond (!bb25) (B8 (c)) undef) rfl) hG28) (vr (B8 (45)) rfl) (A2 _ .u8 ((c).toNat) (45)) ⟨rfl,rfl⟩) (oS rfl (Yk.pickOrN (vr (.bool (bb25)) rfl) (vr (.bool (true)) rfl) (fun hA=>(Ak (vr (cond (!bb25) (.bool (decide (((c).toNat:Nat)=(45)))) undef) rfl) (Bb hA))) fun bb29 hbb30=>(oM rfl (Ac (B8 (c)) rfl rfl (gF (vr (.bool (bb29)) rfl)) (fun hG31=>Yk.move f ⟨rfl,rfl⟩) (Ac (.bool (decide (((c).toNat:Nat)=(95)))) rfl rfl (gF (vr (.bool (bb29)) rfl)) (fun hG32=>Yk.eqI (a:=(((c).toNat:Nat):Int)) (b:=((95:Nat):Int)) (Ak (vr (cond (!bb29) (B8 (c)) undef) rfl) hG32) (vr (B8 (95)) rfl) (A2 _ .u8 ((c).toNat) (95)) ⟨rfl,rfl⟩) (oS rfl (Yk.pickOrN (vr (.bool (bb29)) rfl) (vr (.bool (true)) rfl) (fun hA=>(Ak (vr (cond (!bb29) (.bool (decide (((c).toNat:Nat)=(95)))) undef) rfl) (Bb hA))) fun bb33 hbb34=>(oM rfl (Ac (B8 (c)) rfl rfl (gF (vr (.bool (bb33)) rfl)) (fun hG35=>Yk.move f ⟨rfl,rfl⟩) (Ac (.bool (decide (((c).toNat:Nat)=(46)))) rfl rfl (gF (vr (.bool (bb33)) rfl)) (fun hG36=>Yk.eqI (a:=(((c).toNat:Nat):Int)) (b:=((46:Nat):Int)) (Ak (vr (cond (!bb33) (B8 (c)) undef) rfl) hG36) (vr (B8 (46)) rfl) (A2 _ .u8 ((c).toNat) (46)) ⟨rfl,rfl⟩) (oS rfl (Yk.pickOrN (vr (.bool (bb33)) rfl) (vr (.bool (true)) rfl) (fun hA=>(Ak (vr (cond (!bb33) (.bool (decide (((c).toNat:Nat)=(46)))) undef) rfl) (Bb hA))) fun bb37 hbb38=>(oA rfl (oZ (tN (i _ _ (Am ?_)))))))))))))))))))
 refine Aj (fn:=Tryz.f61) _ rfl [.bool (bb37)] (.bool (bb37)) rfl ⟨rfl,trivial⟩ ?_
 subst hbb6 hbb14 hbb16 hbb24 hbb26 hbb30 hbb34 hbb38
 exact⟨rfl,hE⟩

theorem Qr(w:World)(s:Bs)(hl:s.length≠64):
  Calls Tryz.prog 60 #[St s] w fun e w' =>e = .returned (.bool false)∧Ext w w' :=by
 refine As (args:= [St (s)]) Tryz.func60 rfl 11 rfl (Nat.le_of_ble_eq_true rfl) ?_
 intro c hb
 have f:c 0=(St (s):Value):=hb.get 0
 clear hb
 have hE:=Ext.refl w
 refine sk fun i g=>(wt (oA rfl (oZ (tN (g _ _ (sk fun j h=>(wt (oM rfl (oS rfl (Yk.lenSt (l:=s) DT f (oS rfl (Yk.eqI (a:=(s.length:Nat)) (b:=(64:Nat)) rfl rfl (A2 _ _ _ _) (oM rfl (oN (d:=6) rfl rfl rfl (vr (.bool (false)) (congrArg Value.bool (decide_eq_false (hl)))) rfl (oN (d:=6) rfl rfl rfl (vr (.bool (false)) (congrArg Value.bool (decide_eq_false (hl)))) rfl (oN (d:=6) rfl rfl rfl (vr (.bool (false)) (congrArg Value.bool (decide_eq_false (hl)))) rfl (oS rfl (Yk.pickF (vr (.bool (false)) (congrArg Value.bool (decide_eq_false (hl)))) (vr (.bool (false)) rfl) (oA rfl ?_)))))))))))))))))))
 refine oZ (tN (h _ _ (Am (Aj (fn:=Tryz.f60) _ rfl [.bool (false)] (.bool (false)) rfl ⟨rfl,trivial⟩ ?_))))
 exact⟨rfl,hE⟩

theorem Ia(w:World)(s:Bs)(hs:s.length≤9223372036854775807):
  Calls Tryz.prog 33 #[St s] w fun e w' =>e = .returned (.bool (Ap s))∧Ext w w' :=by
 refine As (args:= [St (s)]) Tryz.func33 rfl 41 rfl (Nat.le_of_ble_eq_true rfl) ?_
 intro k hb
 have c:k 0=(St (s):Value):=hb.get 0
 clear hb
 have hE:=Ext.refl w
 refine sk fun K1 n=>(wt (oA rfl (oZ (tN (n _ _ (sk fun K2 o=>(sk fun K3 p=>(wt (oM rfl (oS rfl (Yk.lenSt (l:=s) DT c (oS rfl (Yk.eqI (a:=(s.length:Nat)) (b:=(1:Nat)) rfl rfl (AX _ _ _ _) (oM rfl (Ac (St (s)) rfl rfl (gF (vr (.bool (decide ((s.length)<(1)))) rfl)) (fun hG4=>Yk.move c ⟨rfl,rfl⟩) (Ac (NI s.length) rfl rfl (gF (vr (.bool (decide ((s.length)<(1)))) rfl)) (fun hG5=>Yk.lenSt (l:=s) DT (Ak (vr (cond (!(decide ((s.length)<(1)))) (St (s)) undef) rfl) hG5) ⟨rfl,rfl⟩) (Ac (.bool (decide ((32)<(s.length)))) rfl rfl (gF (vr (.bool (decide ((s.length)<(1)))) rfl)) (fun hG6=>Yk.eqI (a:=((s.length:Nat):Int)) (b:=((32:Nat):Int)) (Ak (vr (cond (!(decide ((s.length)<(1)))) (NI s.length) undef) rfl) hG6) (vr (NI 32) rfl) (BA _ .i64 (s.length) (32)) ⟨rfl,rfl⟩) (oS rfl (Yk.pickOrN (vr (.bool (decide ((s.length)<(1)))) rfl) (vr (.bool (true)) rfl) (fun hA=>(Ak (vr (cond (!(decide ((s.length)<(1)))) (.bool (decide ((32)<(s.length)))) undef) rfl) (Bb hA))) fun bb7 hbb8=> ?_)))))))))))))))))))
 refine oM rfl (Ac (St (s)) rfl rfl (gF (vr (.bool (bb7)) rfl)) (fun hG9=>Yk.move c ⟨rfl,rfl⟩) (Ac (B8 (s.getD (0) 0)) rfl rfl (gF (vr (.bool (bb7)) rfl)) (fun hG10=>Yk.idxSt (l:=s) (i:=0) DT (Ak (vr (cond (!bb7) (St (s)) undef) rfl) hG10) (vr (NI 0) rfl) (by simp only[hbb8,gA,gB,gC,gD,gE]at hG10;omega) ⟨rfl,rfl⟩) (Ac (.bool (decide (((s.getD (0) 0).toNat:Nat)=(46)))) rfl rfl (gF (vr (.bool (bb7)) rfl)) (fun hG11=>Yk.eqI (a:=(((s.getD (0) 0).toNat:Nat):Int)) (b:=((46:Nat):Int)) (Ak (vr (cond (!bb7) (B8 (s.getD (0) 0)) undef) rfl) hG11) (vr (B8 (46)) rfl) (A2 _ .u8 ((s.getD (0) 0).toNat) (46)) ⟨rfl,rfl⟩) (oS rfl (Yk.pickOrN (vr (.bool (bb7)) rfl) (vr (.bool (true)) rfl) (fun hA=>(Ak (vr (cond (!bb7) (.bool (decide (((s.getD (0) 0).toNat:Nat)=(46)))) undef) rfl) (Bb hA))) fun bb12 hbb13=>(oM rfl (Ac (St (s)) rfl rfl (gF (vr (.bool (bb12)) rfl)) (fun hG14=>Yk.move c ⟨rfl,rfl⟩) (Ac (B8 (s.getD (0) 0)) rfl rfl (gF (vr (.bool (bb12)) rfl)) (fun hG15=>Yk.idxSt (l:=s) (i:=0) DT (Ak (vr (cond (!bb12) (St (s)) undef) rfl) hG15) (vr (NI 0) rfl) (by simp only[hbb8,hbb13,gA,gB,gC,gD,gE]at hG15;omega) ⟨rfl,rfl⟩) (Ac (.bool (decide (((s.getD (0) 0).toNat:Nat)=(45)))) rfl rfl (gF (vr (.bool (bb12)) rfl)) (fun hG16=>Yk.eqI (a:=(((s.getD (0) 0).toNat:Nat):Int)) (b:=((45:Nat):Int)) (Ak (vr (cond (!bb12) (B8 (s.getD (0) 0)) undef) rfl) hG16) (vr (B8 (45)) rfl) (A2 _ .u8 ((s.getD (0) 0).toNat) (45)) ⟨rfl,rfl⟩) (oS rfl (Yk.pickOrN (vr (.bool (bb12)) rfl) (vr (.bool (true)) rfl) (fun hA=>(Ak (vr (cond (!bb12) (.bool (decide (((s.getD (0) 0).toNat:Nat)=(45)))) undef) rfl) (Bb hA))) fun bb17 hbb18=>(oM rfl (Ac (St (s)) rfl rfl (gF (vr (.bool (bb17)) rfl)) (fun hG19=>Yk.move c ⟨rfl,rfl⟩) (Ac (.bool (decide (s=(([72,69,65,68]:List UInt8):List UInt8)))) rfl rfl (gF (vr (.bool (bb17)) rfl)) (fun hG20=>Yk.eqSt (l:=s) (m:=([72,69,65,68]:List UInt8)) (.inl rfl) (Ak (vr (cond (!bb17) (St (s)) undef) rfl) hG20) (vr (St (([72,69,65,68]:List UInt8))) rfl) (decide (s=(([72,69,65,68]:List UInt8):List UInt8))) rfl ⟨rfl,rfl⟩) (oS rfl (Yk.pickOrN (vr (.bool (bb17)) rfl) (vr (.bool (true)) rfl) (fun hA=>(Ak (vr (cond (!bb17) (.bool (decide (s=(([72,69,65,68]:List UInt8):List UInt8)))) undef) rfl) (Bb hA))) fun bb21 hbb22=>(oM rfl (Ac (St (s)) rfl rfl (gF (vr (.bool (bb21)) rfl)) (fun hG23=>Yk.move c ⟨rfl,rfl⟩) ?_))))))))))))))))))
 refine BF (.bool (false)) rfl rfl (gF (vr (.bool (bb21)) rfl)) (fun hG24=>Yk.callA1 Po (Ak (vr (cond (!bb21) (St (s)) undef) rfl) hG24) ((Qr _ s (by simp only[hbb8,hbb13,hbb18,hbb22,gA,gB,gC,gD,gE]at hG24;omega)).mono (by rintro e w2 ⟨rfl,hx⟩;exact⟨_,rfl,rfl,hx⟩))) fun al q=> ?_
 have hE:=hE.trans q
 refine oS rfl (Yk.pickOrN (vr (.bool (bb21)) rfl) (vr (.bool (true)) rfl) (fun hA=>(Ak (vr (cond (!bb21) (.bool (false)) undef) rfl) (Bb hA))) fun bb28 hbb29=>(oZ (tN (p _ _ ?_))))
 refine AW (bb28) (vr (.bool (bb28)) rfl) (fun h=> ?_) (fun h=> ?_)
 ·subst hbb8 hbb13 hbb18 hbb22 hbb29
  rw[Bool.or_false]at h
  refine sk fun am r=>(wt (oA rfl (oZ (tN (r _ _ (Am (An (Aj (fn:=Tryz.f33) _ rfl [.bool (false)] (.bool (false)) rfl ⟨rfl,trivial⟩ ?_))))))))
  exact⟨by rw[It (s:=s) h],hE⟩
 subst hbb8 hbb13 hbb18 hbb22 hbb29
 rw[Bool.or_false]at h
 have hh:En s=false:=h
 have hsl:=GX hh
 refine Aq (tN (o _ _ (sk fun an t=>(sk fun ao u=>(wt (oM rfl (oS rfl (Yk.lenSt (l:=s) DT c (oM rfl (A3 [(0,St (s)),(2, .bool (false)),(31,NI s.length),(32,NI 0)] ⟨c,rfl,rfl,rfl,trivial⟩ fun ap ⟨c,T2,g,f,_⟩=>(tN (u _ _ (Av (A4 (fun(ρ:Au) (wz:World)=>∃i:Nat,ρ 0=(St (s):Value)∧ρ 31=(NI s.length:Value)∧ρ 32=(NI i:Value)∧Ext w wz∧(i≤s.length)∧((s.take i).all ER=true)∧True) (fun ρ _=>s.length-(intOf (ρ 32)).toNat) ⟨0,c,g,f,hE,Nat.zero_le _,by simp,trivial⟩ ?_))))))))))))))
 clear hE
 rintro v ar ⟨i,c,g,f,hE,hi,ha,-⟩
 have q32:=f
 refine sk fun au x=>(wt (oS rfl (Yk.eqI (a:=(i:Nat)) (b:=(s.length:Nat)) f g (AX _ _ _ _) (oZ (tN (x _ _ (sk fun av y=> ?_)))))))
 refine AL ((i)<(s.length)) (vr (.bool (decide ((i)<(s.length)))) rfl) (fun z=> ?_) (fun z=> ?_)
 ·refine Aq (tN (y _ _ (sk fun aw aa=>(Av (sk fun ax ab=>(wt (oM rfl (oA rfl (oZ (tN (ab _ _ (sk fun ay ac=>(wt (oM rfl (oM rfl (oS rfl (Yk.idxSt (l:=s) (i:=i) DT c f (by omega) (oS rfl (Yk.callA1 Pp (vr (B8 (s.getD (i) 0)) rfl) ?_)))))))))))))))))))
  refine(Pr _ (s.getD (i) 0)).mono ?_
  rintro e az ⟨rfl,ad⟩
  refine⟨_,rfl,?_⟩
  have hE:=hE.trans ad
  refine oS rfl (Yk.notB (vr (.bool (ER (s.getD (i) 0))) rfl) (oZ (tN (ac _ _ ?_))))
  refine AW (!(ER (s.getD (i) 0))) (vr (.bool (!(ER (s.getD (i) 0)))) rfl) (fun j=> ?_) (fun j=> ?_)
  ·refine sk fun a0 ae=>(wt (oA rfl (oZ (tN (ae _ _ (Am (AE (An (An (AE (An (Aj (fn:=Tryz.f33) _ rfl [.bool (false)] (.bool (false)) rfl ⟨rfl,trivial⟩ ?_))))))))))))
   exact⟨by rw[Ju (show i<s.length by omega) (P7 j)],hE⟩
  refine Aq (bN (tN (aa _ _ (wt (oS rfl (Yk.bin (xv:=NI i) (yv:=NI 1) f rfl rfl (AA _ _ _ (by omega)) (oM rfl (A3 [(0,St (s)),(3,NI i),(31,NI s.length),(32,NI ((i)+(1)))] ⟨c,f,g,rfl,trivial⟩ fun af ⟨c,T3,g,f,_⟩=>(tN (And.intro ⟨i+1,c,g,f,hE,by omega,K0 0 (by omega) ha (P6 j),trivial⟩ ?_))))))))))
  show s.length-(intOf (af 32)).toNat<s.length-(intOf (v 32)).toNat
  rw[f,q32]
  simp only[intOf,Int.toNat_natCast];omega
 refine AP (Ar (Ar (Az (tN (t _ _ (sk fun a2 ag=>(wt (oA rfl (oZ (tN (ag _ _ (Am (Aj (fn:=Tryz.f33) _ rfl [.bool (true)] (.bool (true)) rfl ⟨rfl,trivial⟩ ?_)))))))))))))
 exact⟨by rw[Jv hh (by omega) ha],hE⟩

theorem I9(w:World)(s:Bs)(hl:s.length≠64):
  Calls Tryz.prog 64 #[St s] w fun e w' =>e = .returned (.tuple #[AB (List.replicate 32 0), .bool false])∧Ext w w' :=by
 refine As (args:= [St (s)]) Tryz.func64 rfl 42 rfl (Nat.le_of_ble_eq_true rfl) ?_
 intro q hb
 have r:q 0=(St (s):Value):=hb.get 0
 clear hb
 have hE:=Ext.refl w
 refine sk fun K1 t=>(wt (oS rfl (Yk.alloc (cs:=(Lib.byteCells (List.replicate 32 0)).toArray) H9 fun i j ac k u ad=> ?_)))
 have hE:=hE.trans u
 have c:=k;clear k
 have ae:i<j.heap.size:=by omega
 refine oA rfl (oZ (tN (t _ _ (sk fun af v=>(wt (oS rfl (Yk.alloc (cs:=(Lib.byteCells (List.replicate 32 0)).toArray) H9 fun m x y n f ag=> ?_)))))))
 have g:=Ext.refl j
 have ah:=hE
 have ai:=hE.size
 have aj:=Bc (bl c) y
 have hE:=hE.trans f
 have c:=eb f c
 have g:=g.trans f
 have h:=n;clear n
 have ak:m<x.heap.size:=by omega
 refine oZ (tN (v _ _ (sk fun al am=>(sk fun an z=>(wt (oM rfl (oS rfl (Yk.lenSt (l:=s) DT r (oS rfl (Yk.eqI (a:=(s.length:Nat)) (b:=(64:Nat)) rfl rfl (BO _ _ _ _) (oZ (tN (z _ _ (wpF_true (vr (.bool (true)) (congrArg Value.bool (decide_eq_true (hl)))) (sk fun ao aa=>(wt (oS rfl (Yk.loadAll (vr (PQ m 0) rfl) h P8 rfl (by exact At List.length_replicate) (oS rfl (Yk.storeAll (vr (PQ i 0) rfl) (vr (AB (List.replicate 32 0)) rfl) c (by exact BK List.length_replicate List.length_replicate) (by exact At List.length_replicate) (Ay _) fun ap o p aq=> ?_))))))))))))))))))))
 have hE:=Af hE p (Nat.le_trans (Nat.le_refl _) (by omega))
 clear g
 have h:=kb p h (by omega)
 clear c
 have c:=o;clear o
 have ar:=bl c
 refine oA rfl (oZ (tN (aa _ _ (Am (An (Aj (fn:=Tryz.f64) _ rfl [AB (List.replicate 32 0), .bool (false)] (.tuple #[AB (List.replicate 32 0), .bool (false)]) rfl ⟨ResF.row rfl c P8 rfl (by exact At List.length_replicate),rfl,trivial⟩ ?_))))))
 exact⟨rfl,hE⟩

theorem HI(w:World)(s:Bs)(hs:s.length≤9223372036854775807):
  Calls Tryz.prog 41 #[St s] w fun e w' =>e = .returned (.bool (Ap s))∧Ext w w' :=by
 refine As (args:= [St (s)]) Tryz.func41 rfl 80 rfl (Nat.le_of_ble_eq_true rfl) ?_
 intro q hb
 have c:q 0=(St (s):Value):=hb.get 0
 clear hb
 have hE:=Ext.refl w
 refine sk fun K1 r=>(wt (oA rfl (oZ (tN (r _ _ (sk fun K2 t=>(sk fun K3 u=>(wt (oM rfl (oS rfl (Yk.lenSt (l:=s) DT c (oS rfl (Yk.eqI (a:=(s.length:Nat)) (b:=(1:Nat)) rfl rfl (AX _ _ _ _) (oM rfl (Ac (St (s)) rfl rfl (gF (vr (.bool (decide ((s.length)<(1)))) rfl)) (fun hG4=>Yk.move c ⟨rfl,rfl⟩) (Ac (NI s.length) rfl rfl (gF (vr (.bool (decide ((s.length)<(1)))) rfl)) (fun hG5=>Yk.lenSt (l:=s) DT (Ak (vr (cond (!(decide ((s.length)<(1)))) (St (s)) undef) rfl) hG5) ⟨rfl,rfl⟩) (Ac (.bool (decide ((32)<(s.length)))) rfl rfl (gF (vr (.bool (decide ((s.length)<(1)))) rfl)) (fun hG6=>Yk.eqI (a:=((s.length:Nat):Int)) (b:=((32:Nat):Int)) (Ak (vr (cond (!(decide ((s.length)<(1)))) (NI s.length) undef) rfl) hG6) (vr (NI 32) rfl) (BA _ .i64 (s.length) (32)) ⟨rfl,rfl⟩) (oS rfl (Yk.pickOrN (vr (.bool (decide ((s.length)<(1)))) rfl) (vr (.bool (true)) rfl) (fun hA=>(Ak (vr (cond (!(decide ((s.length)<(1)))) (.bool (decide ((32)<(s.length)))) undef) rfl) (Bb hA))) fun bb7 hbb8=> ?_)))))))))))))))))))
 refine oM rfl (Ac (St (s)) rfl rfl (gF (vr (.bool (bb7)) rfl)) (fun hG9=>Yk.move c ⟨rfl,rfl⟩) (Ac (.bool (decide (s=(([72,69,65,68]:List UInt8):List UInt8)))) rfl rfl (gF (vr (.bool (bb7)) rfl)) (fun hG10=>Yk.eqSt (l:=s) (m:=([72,69,65,68]:List UInt8)) (.inl rfl) (Ak (vr (cond (!bb7) (St (s)) undef) rfl) hG10) (vr (St (([72,69,65,68]:List UInt8))) rfl) (decide (s=(([72,69,65,68]:List UInt8):List UInt8))) rfl ⟨rfl,rfl⟩) (oS rfl (Yk.pickOrN (vr (.bool (bb7)) rfl) (vr (.bool (true)) rfl) (fun hA=>(Ak (vr (cond (!bb7) (.bool (decide (s=(([72,69,65,68]:List UInt8):List UInt8)))) undef) rfl) (Bb hA))) fun bb11 hbb12=>(oM rfl (Ac (St (s)) rfl rfl (gF (vr (.bool (bb11)) rfl)) (fun hG13=>Yk.move c ⟨rfl,rfl⟩) (Ac (B8 (s.getD (0) 0)) rfl rfl (gF (vr (.bool (bb11)) rfl)) (fun hG14=>Yk.idxSt (l:=s) (i:=0) DT (Ak (vr (cond (!bb11) (St (s)) undef) rfl) hG14) (vr (NI 0) rfl) (by simp only[hbb8,hbb12,gA,gB,gC,gD,gE]at hG14;omega) ⟨rfl,rfl⟩) (Ac (.bool (decide (((s.getD (0) 0).toNat:Nat)=(46)))) rfl rfl (gF (vr (.bool (bb11)) rfl)) (fun hG15=>Yk.eqI (a:=(((s.getD (0) 0).toNat:Nat):Int)) (b:=((46:Nat):Int)) (Ak (vr (cond (!bb11) (B8 (s.getD (0) 0)) undef) rfl) hG15) (vr (B8 (46)) rfl) (A2 _ .u8 ((s.getD (0) 0).toNat) (46)) ⟨rfl,rfl⟩) (oS rfl (Yk.pickOrN (vr (.bool (bb11)) rfl) (vr (.bool (true)) rfl) (fun hA=>(Ak (vr (cond (!bb11) (.bool (decide (((s.getD (0) 0).toNat:Nat)=(46)))) undef) rfl) (Bb hA))) fun bb16 hbb17=>(oM rfl (Ac (St (s)) rfl rfl (gF (vr (.bool (bb16)) rfl)) (fun hG18=>Yk.move c ⟨rfl,rfl⟩) (Ac (B8 (s.getD (0) 0)) rfl rfl (gF (vr (.bool (bb16)) rfl)) (fun hG19=>Yk.idxSt (l:=s) (i:=0) DT (Ak (vr (cond (!bb16) (St (s)) undef) rfl) hG19) (vr (NI 0) rfl) (by simp only[hbb8,hbb12,hbb17,gA,gB,gC,gD,gE]at hG19;omega) ⟨rfl,rfl⟩) (Ac (.bool (decide (((s.getD (0) 0).toNat:Nat)=(45)))) rfl rfl (gF (vr (.bool (bb16)) rfl)) (fun hG20=>Yk.eqI (a:=(((s.getD (0) 0).toNat:Nat):Int)) (b:=((45:Nat):Int)) (Ak (vr (cond (!bb16) (B8 (s.getD (0) 0)) undef) rfl) hG20) (vr (B8 (45)) rfl) (A2 _ .u8 ((s.getD (0) 0).toNat) (45)) ⟨rfl,rfl⟩) (oS rfl (Yk.pickOrN (vr (.bool (bb16)) rfl) (vr (.bool (true)) rfl) (fun hA=>(Ak (vr (cond (!bb16) (.bool (decide (((s.getD (0) 0).toNat:Nat)=(45)))) undef) rfl) (Bb hA))) fun bb21 hbb22=>(oZ (tN (u _ _ ?_)))))))))))))))))))
 refine AW (bb21) (vr (.bool (bb21)) rfl) (fun h=> ?_) (fun h=> ?_)
 ·subst hbb8 hbb12 hbb17 hbb22
  refine sk fun av v=>(wt (oA rfl (oZ (tN (v _ _ (Am (An (Aj (fn:=Tryz.f41) _ rfl [.bool (false)] (.bool (false)) rfl ⟨rfl,trivial⟩ ?_))))))))
  exact⟨by rw[It ((KZ s).symm.trans h)],hE⟩
 subst hbb8 hbb12 hbb17 hbb22
 have hh:En s=false:=(KZ s).symm.trans h
 have hsl:=GX hh
 refine Aq (tN (t _ _ (sk fun aw x=>(sk fun ax y=>(wt (oA rfl (A3 [(0,St (s)),(2, .bool (false)),(3,NI 0)] ⟨c,rfl,rfl,trivial⟩ fun ay ⟨c,T2,f,_⟩=>(tN (y _ _ (Av (A4 (fun(ρ:Au) (wz:World)=>∃i:Nat,ρ 0=(St (s):Value)∧ρ 3=(NI i:Value)∧Ext w wz∧(i≤s.length)∧((s.take i).all ER=true)∧True) (fun ρ _=>s.length-(intOf (ρ 3)).toNat) ⟨0,c,f,hE,Nat.zero_le _,by simp,trivial⟩ ?_)))))))))))
 clear hE
 rintro z a0 ⟨i,c,f,hE,hi,ha,-⟩
 have q3:=f
 refine sk fun a1 aa=>(sk fun a2 ab=>(wt (oM rfl (oM rfl (oS rfl (Yk.lenSt (l:=s) DT c (oS rfl (Yk.eqI (a:=(i:Nat)) (b:=(s.length:Nat)) f rfl (AX _ _ _ _) (oZ (tN (ab _ _ ?_)))))))))))
 refine AL ((i)<(s.length)) (vr (.bool (decide ((i)<(s.length)))) rfl) (fun ac=> ?_) (fun ac=> ?_)
 ·refine Aq (tN (aa _ _ (sk fun a3 ad=>(Av (sk fun a4 ae=>(wt (oM rfl (oM rfl (oS rfl (Yk.idxSt (l:=s) (i:=i) DT c f (by omega) (oA rfl (oZ (tN (ae _ _ (sk fun a5 af=>(wt (oM rfl (oS rfl (Yk.eqI (a:=((s.getD (i) 0).toNat:Nat)) (b:=(97:Nat)) rfl rfl (Ds _ _ _ _) ?_)))))))))))))))))))
  refine oM rfl (Ac (B8 (s.getD (i) 0)) rfl rfl (gT (vr (.bool (decide ((97)≤((s.getD (i) 0).toNat)))) rfl)) (fun hG34=>Yk.move (vr (B8 (s.getD (i) 0)) rfl) ⟨rfl,rfl⟩) (Ac (.bool (decide (((s.getD (i) 0).toNat)≤(122)))) rfl rfl (gT (vr (.bool (decide ((97)≤((s.getD (i) 0).toNat)))) rfl)) (fun hG35=>Yk.eqI (a:=(((s.getD (i) 0).toNat:Nat):Int)) (b:=((122:Nat):Int)) (Ak (vr (cond ((decide ((97)≤((s.getD (i) 0).toNat)))) (B8 (s.getD (i) 0)) undef) rfl) hG35) (vr (B8 (122)) rfl) (Cs _ .u8 ((s.getD (i) 0).toNat) (122)) ⟨rfl,rfl⟩) (oS rfl (Yk.pickAndN (vr (.bool (decide ((97)≤((s.getD (i) 0).toNat)))) rfl) (fun hA=>(Ak (vr (cond ((decide ((97)≤((s.getD (i) 0).toNat)))) (.bool (decide (((s.getD (i) 0).toNat)≤(122)))) undef) rfl) hA)) (vr (.bool (false)) rfl) fun bb36 hbb37=>(oM rfl (Ac (B8 (s.getD (i) 0)) rfl rfl (gF (vr (.bool (bb36)) rfl)) (fun hG38=>Yk.move (vr (B8 (s.getD (i) 0)) rfl) ⟨rfl,rfl⟩) (Ac (.bool (decide ((65)≤((s.getD (i) 0).toNat)))) rfl rfl (gF (vr (.bool (bb36)) rfl)) (fun hG39=>Yk.eqI (a:=(((s.getD (i) 0).toNat:Nat):Int)) (b:=((65:Nat):Int)) (Ak (vr (cond (!bb36) (B8 (s.getD (i) 0)) undef) rfl) hG39) (vr (B8 (65)) rfl) (Ds _ .u8 ((s.getD (i) 0).toNat) (65)) ⟨rfl,rfl⟩) (Ac (.bool (decide ((65)≤((s.getD (i) 0).toNat)))) rfl rfl (gF (vr (.bool (bb36)) rfl)) (fun hG40=>Yk.move (Ak (vr (cond (!bb36) (.bool (decide ((65)≤((s.getD (i) 0).toNat)))) undef) rfl) hG40) ⟨rfl,rfl⟩) (Ac (B8 (s.getD (i) 0)) rfl rfl (Cc (vr (cond (!bb36) (.bool (decide ((65)≤((s.getD (i) 0).toNat)))) undef) rfl)) (fun hG41=>Yk.move (vr (B8 (s.getD (i) 0)) rfl) ⟨rfl,rfl⟩) (Ac (.bool (decide (((s.getD (i) 0).toNat)≤(90)))) rfl rfl (Cc (vr (cond (!bb36) (.bool (decide ((65)≤((s.getD (i) 0).toNat)))) undef) rfl)) (fun hG42=>Yk.eqI (a:=(((s.getD (i) 0).toNat:Nat):Int)) (b:=((90:Nat):Int)) (Ak (vr (cond ((!bb36)&&(decide ((65)≤((s.getD (i) 0).toNat)))) (B8 (s.getD (i) 0)) undef) rfl) hG42) (vr (B8 (90)) rfl) (Cs _ .u8 ((s.getD (i) 0).toNat) (90)) ⟨rfl,rfl⟩) (Cv ((decide ((65)≤((s.getD (i) 0).toNat)))&&(decide (((s.getD (i) 0).toNat)≤(90)))) rfl rfl (gF (vr (.bool (bb36)) rfl)) (fun hG43=>Yk.pickAnd (Ak (vr (cond (!bb36) (.bool (decide ((65)≤((s.getD (i) 0).toNat)))) undef) rfl) hG43) (fun hA=>(Ak (vr (cond ((!bb36)&&(decide ((65)≤((s.getD (i) 0).toNat)))) (.bool (decide (((s.getD (i) 0).toNat)≤(90)))) undef) rfl) (Du hG43 hA))) (vr (.bool (false)) rfl) ⟨rfl,rfl⟩) fun bb44 hbb45=>(oS rfl (Yk.pickOrN (vr (.bool (bb36)) rfl) (vr (.bool (true)) rfl) (fun hA=>(Ak (vr (cond (!bb36) (.bool (bb44)) undef) rfl) (Bb hA))) fun bb46 hbb47=>(oM rfl (Ac (B8 (s.getD (i) 0)) rfl rfl (gF (vr (.bool (bb46)) rfl)) (fun hG48=>Yk.move (vr (B8 (s.getD (i) 0)) rfl) ⟨rfl,rfl⟩) (Ac (.bool (decide ((48)≤((s.getD (i) 0).toNat)))) rfl rfl (gF (vr (.bool (bb46)) rfl)) (fun hG49=>Yk.eqI (a:=(((s.getD (i) 0).toNat:Nat):Int)) (b:=((48:Nat):Int)) (Ak (vr (cond (!bb46) (B8 (s.getD (i) 0)) undef) rfl) hG49) (vr (B8 (48)) rfl) (Ds _ .u8 ((s.getD (i) 0).toNat) (48)) ⟨rfl,rfl⟩) ?_))))))))))))))))
  refine Ac (.bool (decide ((48)≤((s.getD (i) 0).toNat)))) rfl rfl (gF (vr (.bool (bb46)) rfl)) (fun hG50=>Yk.move (Ak (vr (cond (!bb46) (.bool (decide ((48)≤((s.getD (i) 0).toNat)))) undef) rfl) hG50) ⟨rfl,rfl⟩) (Ac (B8 (s.getD (i) 0)) rfl rfl (Cc (vr (cond (!bb46) (.bool (decide ((48)≤((s.getD (i) 0).toNat)))) undef) rfl)) (fun hG51=>Yk.move (vr (B8 (s.getD (i) 0)) rfl) ⟨rfl,rfl⟩) (Ac (.bool (decide (((s.getD (i) 0).toNat)≤(57)))) rfl rfl (Cc (vr (cond (!bb46) (.bool (decide ((48)≤((s.getD (i) 0).toNat)))) undef) rfl)) (fun hG52=>Yk.eqI (a:=(((s.getD (i) 0).toNat:Nat):Int)) (b:=((57:Nat):Int)) (Ak (vr (cond ((!bb46)&&(decide ((48)≤((s.getD (i) 0).toNat)))) (B8 (s.getD (i) 0)) undef) rfl) hG52) (vr (B8 (57)) rfl) (Cs _ .u8 ((s.getD (i) 0).toNat) (57)) ⟨rfl,rfl⟩) (Cv ((decide ((48)≤((s.getD (i) 0).toNat)))&&(decide (((s.getD (i) 0).toNat)≤(57)))) rfl rfl (gF (vr (.bool (bb46)) rfl)) (fun hG53=>Yk.pickAnd (Ak (vr (cond (!bb46) (.bool (decide ((48)≤((s.getD (i) 0).toNat)))) undef) rfl) hG53) (fun hA=>(Ak (vr (cond ((!bb46)&&(decide ((48)≤((s.getD (i) 0).toNat)))) (.bool (decide (((s.getD (i) 0).toNat)≤(57)))) undef) rfl) (Du hG53 hA))) (vr (.bool (false)) rfl) ⟨rfl,rfl⟩) fun bb54 hbb55=>(oS rfl (Yk.pickOrN (vr (.bool (bb46)) rfl) (vr (.bool (true)) rfl) (fun hA=>(Ak (vr (cond (!bb46) (.bool (bb54)) undef) rfl) (Bb hA))) fun bb56 hbb57=>(oM rfl (Ac (B8 (s.getD (i) 0)) rfl rfl (gF (vr (.bool (bb56)) rfl)) (fun hG58=>Yk.move (vr (B8 (s.getD (i) 0)) rfl) ⟨rfl,rfl⟩) (Ac (.bool (decide (((s.getD (i) 0).toNat:Nat)=(45)))) rfl rfl (gF (vr (.bool (bb56)) rfl)) (fun hG59=>Yk.eqI (a:=(((s.getD (i) 0).toNat:Nat):Int)) (b:=((45:Nat):Int)) (Ak (vr (cond (!bb56) (B8 (s.getD (i) 0)) undef) rfl) hG59) (vr (B8 (45)) rfl) (A2 _ .u8 ((s.getD (i) 0).toNat) (45)) ⟨rfl,rfl⟩) (oS rfl (Yk.pickOrN (vr (.bool (bb56)) rfl) (vr (.bool (true)) rfl) (fun hA=>(Ak (vr (cond (!bb56) (.bool (decide (((s.getD (i) 0).toNat:Nat)=(45)))) undef) rfl) (Bb hA))) fun bb60 hbb61=>(oM rfl (Ac (B8 (s.getD (i) 0)) rfl rfl (gF (vr (.bool (bb60)) rfl)) (fun hG62=>Yk.move (vr (B8 (s.getD (i) 0)) rfl) ⟨rfl,rfl⟩) (Ac (.bool (decide (((s.getD (i) 0).toNat:Nat)=(95)))) rfl rfl (gF (vr (.bool (bb60)) rfl)) (fun hG63=>Yk.eqI (a:=(((s.getD (i) 0).toNat:Nat):Int)) (b:=((95:Nat):Int)) (Ak (vr (cond (!bb60) (B8 (s.getD (i) 0)) undef) rfl) hG63) (vr (B8 (95)) rfl) (A2 _ .u8 ((s.getD (i) 0).toNat) (95)) ⟨rfl,rfl⟩) (oS rfl (Yk.pickOrN (vr (.bool (bb60)) rfl) (vr (.bool (true)) rfl) (fun hA=>(Ak (vr (cond (!bb60) (.bool (decide (((s.getD (i) 0).toNat:Nat)=(95)))) undef) rfl) (Bb hA))) fun bb64 hbb65=>(oM rfl (Ac (B8 (s.getD (i) 0)) rfl rfl (gF (vr (.bool (bb64)) rfl)) (fun hG66=>Yk.move (vr (B8 (s.getD (i) 0)) rfl) ⟨rfl,rfl⟩) ?_)))))))))))))))))
  refine Ac (.bool (decide (((s.getD (i) 0).toNat:Nat)=(46)))) rfl rfl (gF (vr (.bool (bb64)) rfl)) (fun hG67=>Yk.eqI (a:=(((s.getD (i) 0).toNat:Nat):Int)) (b:=((46:Nat):Int)) (Ak (vr (cond (!bb64) (B8 (s.getD (i) 0)) undef) rfl) hG67) (vr (B8 (46)) rfl) (A2 _ .u8 ((s.getD (i) 0).toNat) (46)) ⟨rfl,rfl⟩) (oS rfl (Yk.pickOrN (vr (.bool (bb64)) rfl) (vr (.bool (true)) rfl) (fun hA=>(Ak (vr (cond (!bb64) (.bool (decide (((s.getD (i) 0).toNat:Nat)=(46)))) undef) rfl) (Bb hA))) fun bb68 hbb69=>(oS rfl (Yk.notB (vr (.bool (bb68)) rfl) (A3 [(0,St (s)),(3,NI i),(4,B8 (s.getD (i) 0)),(72, .bool (!(bb68)))] ⟨c,f,rfl,rfl,trivial⟩ fun a6 ⟨c,f,k,ag,_⟩=>(tN (af _ _ ?_)))))))
  refine AW (!(bb68)) ag (fun j=> ?_) (fun j=> ?_)
  ·subst hbb37 hbb45 hbb47 hbb55 hbb57 hbb61 hbb65 hbb69
   refine sk fun a7 ah=>(wt (oA rfl (oZ (tN (ah _ _ (Am (AE (An (An (AE (An (Aj (fn:=Tryz.f41) _ rfl [.bool (false)] (.bool (false)) rfl ⟨rfl,trivial⟩ ?_))))))))))))
   exact⟨by rw[Ju (show i<s.length by omega) (P7 j)],hE⟩
  subst hbb37 hbb45 hbb47 hbb55 hbb57 hbb61 hbb65 hbb69
  refine Aq (bN (tN (ad _ _ (wt (oM rfl (oS rfl (Yk.bin (xv:=NI i) (yv:=NI 1) f rfl rfl (AA _ _ _ (by omega)) (oA rfl (A3 [(0,St (s)),(3,NI ((i)+(1))),(4,B8 (s.getD (i) 0))] ⟨c,rfl,k,trivial⟩ fun ai ⟨c,f,k,_⟩=>(tN (And.intro ⟨i+1,c,f,hE,by omega,K0 0 (by omega) ha (P6 j),trivial⟩ ?_)))))))))))
  show s.length-(intOf (ai 3)).toNat<s.length-(intOf (z 3)).toNat
  rw[f,q3]
  simp only[intOf,Int.toNat_natCast];omega
 refine AP (Ar (Ar (Az (tN (x _ _ (sk fun a8 aj=>(wt (oM rfl (oS rfl (Yk.callA1 Pq c ((I9 _ s (by omega)).mono ?_)))))))))))
 rintro e a9 ⟨rfl,ak⟩
 refine⟨_,rfl,?_⟩
 have hE:=hE.trans ak
 refine oM rfl (oS rfl (Yk.extract (vs:= [AB (List.replicate 32 0), .bool (false)]) (vr (.tuple #[AB (List.replicate 32 0), .bool (false)]) rfl) (show _=some (AB (List.replicate 32 0):Value)from rfl) (oS rfl (Yk.extract (vs:= [AB (List.replicate 32 0), .bool (false)]) (vr (.tuple #[AB (List.replicate 32 0), .bool (false)]) rfl) (show _=some (.bool (false):Value)from rfl) (oS rfl (Yk.alloc (cs:=(Lib.byteCells (List.replicate 32 0)).toArray) H9 fun n al ba o am bb=> ?_))))))
 have an:=hE.size
 have hE:=hE.trans am
 have g:=o;clear o
 have bc:n<al.heap.size:=by omega
 refine oS rfl (Yk.storeAll (vr (PQ n 0) rfl) (vr (AB (List.replicate 32 0)) rfl) g (by exact BK List.length_replicate List.length_replicate) (by exact At List.length_replicate) (Ay _) fun bd p ao be=> ?_)
 have hE:=Af hE ao (Nat.le_trans an (by omega))
 clear g
 have g:=p;clear p
 have bf:=bl g
 refine oA rfl (oZ (tN (aj _ _ (sk fun bg ap=>(wt (oM rfl (oS rfl (Yk.notB (vr (.bool (false)) rfl) (oA rfl (oZ (tN (ap _ _ (Am (Aj (fn:=Tryz.f41) _ rfl [.bool (true)] (.bool (true)) rfl ⟨rfl,trivial⟩ ?_))))))))))))))
 exact⟨by rw[Jv hh (by omega) ha],hE⟩
open Go.RowKit
open Go.WideMaps (KeyLaw)
structure KL (P : Program) (k : TypeId) (OK : Value → Prop) : Prop where
  check:∀(w:World) (em:Bool) {v:Value},OK v→(Instr.checkKey em 10000 k v).run P w = .ok () w
  find:∀(w:World) {x:Value},OK x→∀es:List MapEntry,(∀e∈es,OK e.key) →
    ((Instr.findKey k x es).run P w = .ok none w∧∀e∈es,e.key≠x)∨∃j e,(Instr.findKey k x es).run P w = .ok (some (j,e.val)) w∧es[j]? =some e∧e.key=x
  stays:∀(w:World) {v:Value},OK v→(Instr.keyThatStays v v).run P w = .ok v w
theorem KL.ofKey{P:Program}{k:TypeId}{d:TypeDesc}(hd:P.underlying k=some d):KL P k (MapKept.IsKey d):=
  ⟨fun w em _ h=>MapKept.run_checkKey hd h em 9999,fun w x h es he=>by
    rcases MapKept.findNow_spec h es 0 he with ⟨h1,h2⟩ | ⟨j,e,h1,h2,h3⟩
    · exact .inl ⟨MapKept.run_findKey hd h1,h2⟩
    · rw[Nat.zero_add]at h1
      exact .inr ⟨j,e,MapKept.run_findKey hd h1,h2,h3⟩,fun w _ h=>MapKept.run_keyThatStays h⟩
section
variable {α β : Type} (ek : α → Value) (ev : β → Value) (D : α → Prop)
structure Rw (G : α → Option β) (es : List MapEntry) : Prop where
  keys:(es.map (·.key)).Nodup
  ent:∀e∈es,∃a y,D a∧e.key=ek a∧e.val=ev y∧G a=some y
  all:∀a y,G a=some y→D a∧∃e∈es,e.key=ek a
def MapF(w:World)(b:Nat)(G:α→Option β):Prop:=∃es clock,w.heap[b]? =some (.map es.toArray clock)∧Rw ek ev D G es
end
def updM{α β:Type}[DecidableEq α](G:α→Option β)(a:α)(y:Option β)(c:α):Option β:=if c=a then y else G c
section
variable {α β : Type} {ek : α → Value} {ev : β → Value} {D : α → Prop} {P : Program} {w w' : World} {b : Nat} {G : α → Option β}
theorem MapF.keep(h:MapF ek ev D w b G)(k:Ext w w'):MapF ek ev D w' b G:=by
  obtain⟨es,c,h2,h3⟩:=h
  exact⟨es,c,Ext.blk' k h2,h3⟩
theorem MapF.lt(h:MapF ek ev D w b G):b<w.heap.size:=by
  obtain⟨es,c,h2,h3⟩:=h
  exact(Array.getElem?_eq_some_iff.1 h2).1
theorem MapF.other{r:Option Nat}(h:MapF ek ev D w b G)(k:w.grownBy w' r)(hr:r≠some b):MapF ek ev D w' b G:=by
  have hl:=h.lt
  obtain⟨es,c,h2,h3⟩:=h
  exact⟨es,c,(k.block b hl (fun e=>hr e.symm)).trans h2,h3⟩
theorem MapF.grew{v v' :Value}(h:MapF ek ev D w b G)(g:Grew w w' v v')(hv:v.ownBlock≠some b):MapF ek ev D w' b G:=h.other g.by_ hv
theorem MapF.made(ek:α→Value)(ev:β→Value)(D:α→Prop)(w:World):MapF ek ev D (w.alloc (.map #[] 0)) w.heap.size (fun _=>none):=
  ⟨[],0,heap_alloc_new w _,by simp,by simp,fun _ _ h=>by cases h⟩
section
variable {t K E : TypeId} {OK : Value → Prop} (L : KL P K OK) (hD : ∀ a, D a → OK (ek a)) (hi : ∀ a c, ek a = ek c → a = c) (ht : P.underlying t = some (.map K E))
include L hD hi ht
theorem MapF.look{z:Value}(hz:∀u:World,(zeroValue E).run P u = .ok z u)(h:MapF ek ev D w b G){a:α}(ha:D a)(ok:Bool):
    (Instr.lookup t (.map (some b)) (ek a) ok).run P w = .ok (if ok then .tuple #[(G a).elim z ev, .bool (G a).isSome]else(G a).elim z ev) w:=by
  obtain⟨es,c,hb,H⟩:=h
  have hkeys:∀e∈es,OK e.key:=fun e he=>by
    obtain⟨q,y,k1,k2,-⟩:=H.ent e he
    rw[k2]
    exact hD q k1
  rcases L.find w (hD a ha) es hkeys with ⟨f1,f2⟩ | ⟨j,f,f1,f2,f3⟩
  · have hG:G a=none:=by
      cases hG:G a with
      | none=>rfl
      | some y=>
        obtain⟨-,e,he,hek⟩:=H.all a y hG
        exact absurd hek (f2 e he)
    cases ok <;> simp[Instr.lookup,run_underlying ht,MapKept.run_getObj_map hb,L.check w _ (hD a ha),f1,hz,Result.andThen,hG]
  · obtain⟨q,y,k1,k2,k3,k4⟩:=H.ent f (List.mem_of_getElem? f2)
    have:q=a:=hi _ _ (k2.symm.trans f3)
    subst this
    cases ok <;> simp[Instr.lookup,run_underlying ht,MapKept.run_getObj_map hb,L.check w _ (hD q ha),f1,Result.andThen,k4,k3]
variable [DecidableEq α]
omit hi in
theorem MapF.put(h:MapF ek ev D w b G){a:α}(ha:D a)(y:β):
    ∃w',(Instr.mapUpdate t (.map (some b)) (ek a) (ev y)).run P w = .ok () w' ∧MapF ek ev D w' b (updM G a (some y))∧w.grownBy w' (some b)∧w'.heap.size=w.heap.size:=by
  obtain⟨es,c,hb,H⟩:=h
  have hkeys:∀e∈es,OK e.key:=fun e he=>by
    obtain⟨q,y,k1,k2,-⟩:=H.ent e he
    rw[k2]
    exact hD q k1
  have hblt:b<w.heap.size:=(Array.getElem?_eq_some_iff.1 hb).1
  have hgr:∀o,w.grownBy { w with heap:=w.heap.setIfInBounds b o } (some b):=fun o=>⟨rfl,rfl,rfl,by simp,fun i _ hi=>by simp only[Array.getElem?_setIfInBounds];rw[if_neg (fun e=>hi (by rw[e]))]⟩
  have hnew:∀o,({ w with heap:=w.heap.setIfInBounds b o } :World).heap[b]? =some o:=fun o=>by simp[hblt]
  rcases L.find w (hD a ha) es hkeys with ⟨f1,f2⟩ | ⟨j,g,f1,f2,f3⟩
  · have hnone:∀x,G a≠some x:=fun x hx=>by
      obtain⟨-,e,he,hek⟩:=H.all a x hx
      exact f2 e he hek
    refine⟨{ w with heap:=w.heap.setIfInBounds b (.map (es++ [({ key:=ek a,val:=ev y,born:=c } :MapEntry)]).toArray (c+1)) },?_,⟨_,_,hnew _,?_,?_,?_⟩,hgr _,by simp⟩
    · simp[Instr.mapUpdate,run_underlying ht,MapKept.run_getObj_map hb,L.check w false (hD a ha),f1,MapKept.run_setObj_map _ hb,Result.andThen]
    · simp only[List.map_append,List.map_cons,List.map_nil]
      refine List.nodup_append.2 ⟨H.keys,by simp,fun x hx z hz e=> ?_⟩
      obtain⟨f,he1,rfl⟩:=List.mem_map.1 hx
      simp at hz
      exact f2 f he1 (e.trans hz)
    · intro e he
      rcases List.mem_append.1 he with h1 | h1
      · obtain⟨q,z,k1,k2,k3,k4⟩:=H.ent e h1
        refine⟨q,z,k1,k2,k3,?_⟩
        unfold updM
        rw[if_neg (fun f=>f2 e h1 (by rw[k2,f]))]
        exact k4
      · rw[List.mem_singleton.1 h1]
        exact⟨a,y,ha,rfl,rfl,by unfold updM;rw[if_pos rfl]⟩
    · intro q z hq
      unfold updM at hq
      split at hq
      · rename_i f
        subst f
        exact⟨ha,_,List.mem_append_right _ (List.mem_singleton.2 rfl),rfl⟩
      · obtain⟨k1,e,he,hek⟩:=H.all q z hq
        exact⟨k1,e,List.mem_append_left _ he,hek⟩
  · obtain⟨q0,y0,k1,k2,k3,k4⟩:=H.ent g (List.mem_of_getElem? f2)
    have hjl:j<es.length:=(List.getElem?_eq_some_iff.1 f2).1
    have hkeq:(es.modify j fun e=> { e with key:=ek a,val:=ev y }).map (·.key)=es.map (·.key):=by
      rw[Go.ChangeMaps.modify_eq_set _ _ _ _ f2,List.map_set]
      exact Go.WideElems.set_self _ _ _ (by rw[List.getElem?_map,f2];simp[f3])
    have hj:es.toArray[j]? =some g:=by simpa using f2
    refine⟨{ w with heap:=w.heap.setIfInBounds b (.map (es.modify j fun e=> { e with key:=ek a,val:=ev y }).toArray c) },?_,⟨_,_,hnew _,?_,?_,?_⟩,hgr _,by simp⟩
    · simp[Instr.mapUpdate,run_underlying ht,MapKept.run_getObj_map hb,L.check w false (hD a ha),f1,f2,f3,L.stays w (hD a ha),MapKept.run_setObj_map _ hb,Result.andThen]
    · rw[hkeq]
      exact H.keys
    · intro e he
      rw[Go.ChangeMaps.modify_eq_set _ _ _ _ f2]at he
      obtain⟨i,hil,hie⟩:=List.mem_iff_getElem.1 he
      rw[List.getElem_set]at hie
      split at hie
      · subst hie
        exact⟨a,y,ha,rfl,rfl,by unfold updM;rw[if_pos rfl]⟩
      · rename_i hne
        have hil2:i<es.length:=by simpa using hil
        obtain⟨q,z,m1,m2,m3,m4⟩:=H.ent e (hie▸List.getElem_mem hil2)
        refine⟨q,z,m1,m2,m3,?_⟩
        unfold updM
        rw[if_neg ?_]
        · exact m4
        · intro f
          subst f
          apply hne
          have hn:=H.keys
          have k:(es.map (·.key))[j]'(by simpa using hjl)=(es.map (·.key))[i]'(by simpa using hil2):=by
            simp only[List.getElem_map]
            rw[hie,m2,←f3]
            exact congrArg MapEntry.key (List.getElem?_eq_some_iff.1 f2).2
          exact(List.getElem_inj hn).1 k
    · intro q z hq
      have hmem:∀x,x∈es.map (·.key)→∃e∈(es.modify j fun e=> { e with key:=ek a,val:=ev y }),e.key=x:=fun x hx=>by
        rw[←hkeq]at hx
        obtain⟨e,he,rfl⟩:=List.mem_map.1 hx
        exact⟨e,he,rfl⟩
      unfold updM at hq
      split at hq
      · rename_i f
        subst f
        exact⟨ha,hmem _ (List.mem_map.2 ⟨g,List.mem_of_getElem? f2,f3⟩)⟩
      · obtain⟨k1,e,he,hek⟩:=H.all q z hq
        exact⟨k1,hmem _ (List.mem_map.2 ⟨e,he,hek⟩)⟩
end
end
open Go.RowKit
theorem Em{a b:Nat}(h:a≠b):some a≠some b:=fun e=>h (Option.some.inj e)
def CD(u v:Value):Prop:=∀k,u.ownBlock=some k→v.ownBlock≠some k
section
variable {N B : Nat} {r : Option Nat} {w w' w1 w0 : World} {e t : TypeId}
theorem Kj{z n:Nat}{v:Value}{xs:List Value}(ho:w.ownsRow B e z v n xs)(k:w.grownBy w1 r)(ha:∀k,r=some k→v.ownBlock≠some k):w1.ownsRow B e z v n xs:=
  ho.kept k (by
    cases hv:v.ownBlock with
    | none=>exact .inl rfl
    | some g=>exact .inr (fun e=>ha g e.symm hv))
theorem MK{u v:Value}{b:Nat}{e' :TypeId}{z n z' n' :Nat}{xs ys:List Value}(hu:w.ownsRow b e z u n xs)(hv:w'.ownsRow w.heap.size e' z' v n' ys):CD u v:=fun k h1 h2=>by
  have:=(hu.lt k h1).2
  have:=(hv.lt k h2).1
  omega
theorem Rq{u v:Value}{b:Nat}{e' :TypeId}{z n z' n' :Nat}{xs ys:List Value}(hu:w.ownsRow b e z u n xs)(hv:w'.ownsRow w.heap.size e' z' v n' ys):CD v u:=fun k h1 h2=>MK hu hv k h2 h1
theorem HJ{u v v' :Value}{b:Nat}{z n:Nat}{xs:List Value}(gr:Grew w w' v v')(ha:CD v u)(hu:w.ownsRow b e z u n xs):CD v' u:=fun k h1 h2=>by
  rcases gr.fresh k h1 with h3 | h3
  · exact ha k h3 h2
  · have:=(hu.lt k h2).2
    omega
theorem Ps{v v' u:Value}{b:Nat}{z n:Nat}{xs:List Value}(hu:w.ownsRow b e z u n xs)(gr:Grew w w' v v')(ha:CD v u):w'.ownsRow b e z u n xs:=Kj hu gr.by_ ha
theorem Dr{α:Type}{k b:Nat}{enc:α→List Value}{v v' u:Value}{l:List α}(hu:OG b e k enc w u l)(gr:Grew w w' v v')(ha:CD v u):OG b e k enc w' u l:=⟨hu.1,Ps hu.2 gr ha⟩
end
open Go.RowKit
def Yp(P:Program)(K:Value→World→Prop)(J:List PanicEntry→World→Prop):Result Next→Prop
  | .ok (.value v) w=>K v w
  | .ok .skip w=>K undef w
  | .ok (.enter f args) w=>Calls P f args w fun e w' =>match e with | .returned v=>K v w' | .panicked ch=>J ch w' | .outgrown=>False
  | .halt (.panic v) w=>J [{ v,recovered:=false }] w
  | _=>False
section
variable {P : Program} {n : Nat} {Q : Ce} {ρ : Au} {w : World}
theorem Yp.ofK{K:Value→World→Prop}{J:List PanicEntry→World→Prop}{r:Result Next}(h:Yk P K r):Yp P K J r:=by
  unfold Yk at h
  split at h
  · exact h
  · exact h
  · exact h.mono fun e w' hx=>by
      obtain⟨v,rfl,hk⟩:=hx
      exact hk
  · exact h.elim
theorem oP{ops:Array Oper}{rest:List Oper}{dst:Option Tmp}{op:Op}{ty:TypeId}{pos:String}{af:Array Edge}(hd:(match dst with | some d=>Nat.blt d n | none=>true)=true) 
    (h:Yp P (fun v w' =>Cn P ops n Q rest (BC ρ dst v) w') (fun ch w' =>Q (.panic ch) ρ w') ((execOp (Ag ρ) ⟨dst,op,ty,pos,af,none⟩).run P w)):Cn P ops n Q (⟨dst,op,ty,pos,af,none⟩ :: rest) ρ w:=by
  intro a ha
  have hdn:∀t,dst=some t→t<n:=fun t ht=>by subst ht;exact Nat.le_of_ble_eq_true hd
  refine wpList_plain rfl fun K hK=> ?_
  unfold Oper.wp Oper.upon
  rw[ha.eval]
  have hput:=fun v=>ha.put dst hdn v
  revert h
  generalize (execOp (Ag ρ) ⟨dst,op,ty,pos,af,none⟩).run P w=r
  intro h
  match r,h with
  | .ok (.value v) w',h=>exact hK _ _ (h _ (hput v))
  | .ok .skip w',h=>exact hK _ _ (h _ (hput undef))
  | .halt (.panic v) w',h=>exact⟨ρ,ha,h⟩
  | .ok (.enter f args) w',h=>
    refine Calls.mono h ?_
    intro e w'' hx
    match e,hx with
    | .returned v,hx=>exact hK _ _ (hx _ (hput v))
    | .panicked ch,hx=>exact⟨ρ,ha,hx⟩
theorem Yp.call{f:FuncId}{args:Array Operand}{at_:Array TypeId}{dst:Option Tmp}{ty:TypeId}{pos:String}{af:Array Edge}{gd:Option (Nat × Bool)}{K:Value→World→Prop}{J:List PanicEntry→World→Prop}(hp:AI P f)(vs:List Value)(hv:args.toList.map (Ag ρ)=vs) 
    (h:Calls P f vs.toArray w fun e w' =>match e with | .returned v=>K v w' | .panicked ch=>J ch w' | .outgrown=>False):Yp P K J ((execOp (Ag ρ) ⟨dst, .call ⟨.value (.func f),args,at_⟩,ty,pos,af,gd⟩).run P w):=by
  subst hv
  have hr:=GJ hp (Ag ρ) args.toList at_ dst ty pos af gd w rfl
  rw[Array.toArray_toList]at hr
  rw[hr]
  exact h
theorem AV{f:FuncId}{args:Array Value}{K:Value→World→Prop}{J:List PanicEntry→World→Prop}{A:Value→World→Prop}{B:List PanicEntry→World→Prop}(h:Calls P f args w fun e w' =>(∃v,e = .returned v∧A v w')∨∃ch,e = .panicked ch∧B ch w') 
    (hA:∀v w',A v w' →K v w') (hB:∀ch w',B ch w' →J ch w'):Calls P f args w fun e w' =>match e with | .returned v=>K v w' | .panicked ch=>J ch w' | .outgrown=>False:=
  h.mono fun e w' hx=>by
    rcases hx with ⟨v,rfl,h1⟩ | ⟨ch,rfl,h1⟩
    · exact hA v w' h1
    · exact hB ch w' h1
theorem Yp.panic{dst:Option Tmp}{ty:TypeId}{pos:String}{af:Array Edge}{gd:Option (Nat × Bool)}{K:Value→World→Prop}{J:List PanicEntry→World→Prop}{x:Operand}{u:TypeId}{v:Value}(hx:Ag ρ x = .iface u v)(h:J [{ v:= .iface u v,recovered:=false }] w):
    Yp P K J ((execOp (Ag ρ) ⟨dst, .panic x,ty,pos,af,gd⟩).run P w):=by
  have hr:(execOp (Ag ρ) ⟨dst, .panic x,ty,pos,af,gd⟩).run P w = .halt (.panic (.iface u v)) w:=by
    simp[execOp,hx,Instr.panic,goPanic]
  rw[hr]
  exact h
section
variable {Q : Ce} {K : Au → World → Prop} {ch : List PanicEntry}
theorem AD(h:Q (.panic ch) ρ w):Fs K Q (.panic ch) ρ w:=h
theorem Bu{i:Nat}(h:Q (.panic ch) ρ w):DR i Q (.panic ch) ρ w:=h
end
def Hp(P:Program)(fn:Func)(R:Ending→World→Prop):Ce
  | .normal,ρ,w | .ret,ρ,w=>∀tmps:Array Value,(∀t,tmps.getD t undef=ρ t)→∃v,(results fn tmps).run P w = .ok v w∧R (.returned v) w
  | .panic ch,_,w=>R (.panicked ch) w
  | _,_,_=>False
theorem CP{f:FuncId}{fn:Func}{c:Code}{args:List Value}{R:Ending→World→Prop}(hf:P.funcs[f]? =some fn)(hb:fn.body=some c)(m:Nat)(hm:fn.ntmps=m)(hn:args.length≤m) 
    (h:∀ρ,Ky args ρ→Cf P m c (Hp P fn R) ρ w):Calls P f args.toArray w R:=by
  subst hm
  refine calls_of_wp hf hb ?_
  have hget:∀t,(args.toArray++Array.replicate (fn.ntmps-args.toArray.size) undef).getD t undef=args.getD t undef:=fun t=>by
    simp only[Array.getD_eq_getD_getElem?,List.getD_eq_getElem?_getD,Array.getElem?_append,List.size_toArray,List.getElem?_toArray]
    by_cases ht:t<args.length
    · rw[if_pos ht]
    · rw[if_neg ht,List.getElem?_eq_none (by omega),Array.getElem?_replicate]
      split <;> rfl
  refine wp_mono (h (fun t=>args.getD t undef) ⟨fun _=>rfl⟩ _ ⟨?_,rfl,hget⟩) ?_
  · simp
    omega
  · rintro e a' w' ⟨ρ',hf',hQ⟩
    have fin:(∀tmps:Array Value,(∀t,tmps.getD t undef=ρ' t)→∃v,(results fn tmps).run P w' = .ok v w' ∧R (.returned v) w')→a'.defers= []∧∃v,(results fn a'.tmps).run P w' = .ok v w' ∧R (.returned v) w' :=
      fun h=>⟨hf'.defers,h a'.tmps hf'.get⟩
    cases e with
    | normal=>exact fin hQ
    | ret=>exact fin hQ
    | panic ch=>exact⟨hf'.defers,hQ⟩
    | exit _=>exact hQ.elim
    | goto _=>exact hQ.elim
    | outgrown=>exact hQ.elim
theorem CK{fn:Func}{R:Ending→World→Prop}(rs:List ResultVar)(hrs:fn.results=rs.toArray)(vs:List Value)(v:Value)(hv:Fa vs=v)(h:Ev P ρ w rs vs)(hR:R (.returned v) w):Hp P fn R .ret ρ w:=
  fun _ ht=>⟨_,Eb hrs ht h,by rw[hv];exact hR⟩
theorem GY{fn:Func}{R:Ending→World→Prop}(rs:List ResultVar)(hrs:fn.results=rs.toArray)(vs:List Value)(v:Value)(hv:Fa vs=v)(h:Ev P ρ w rs vs)(hR:R (.returned v) w):Hp P fn R .normal ρ w:=
  fun _ ht=>⟨_,Eb hrs ht h,by rw[hv];exact hR⟩
theorem A1{fn:Func}{R:Ending→World→Prop}{ch:List PanicEntry}(h:R (.panicked ch) w):Hp P fn R (.panic ch) ρ w:=h
end
open Go.RowKit
section
variable {P : Program} {K : Value → World → Prop} {ρ : Au} {w : World} {d : Option Tmp} {ty : TypeId} {pos : String} {af : Array Edge} {gd : Option (Nat × Bool)}
variable {α β : Type} {ek : α → Value} {ev : β → Value} {D : α → Prop} {b : Nat} {G : α → Option β}
variable {t Kt E : TypeId} {OK : Value → Prop}
theorem Yk.lookM(L:KL P Kt OK)(hD:∀a,D a→OK (ek a))(hi:∀a c,ek a=ek c→a=c)(ht:P.underlying t=some (.map Kt E)){z:Value}(hz:∀u:World,(zeroValue E).run P u = .ok z u){x y:Operand}{a:α} 
    (hm:Ag ρ x = .map (some b)) (hy:Ag ρ y=ek a) (h:MapF ek ev D w b G) (ha:D a) (hk:K ((G a).elim z ev) w):
    Yk P K ((execOp (Ag ρ) ⟨d, .lookup t x y false,ty,pos,af,gd⟩).run P w):=by
  have hrun:=h.look L hD hi ht hz ha false
  refine Yk.value (v:=(G a).elim z ev) (w' :=w) ?_ hk
  unfold execOp
  simp only[hm,hy,Sem.run_bind,hrun,Result.andThen_ok,Sem.run_pure]
  rfl
theorem Yk.mkMap(ek:α→Value)(ev:β→Value)(D:α→Prop)(hk:∀g w',w.heap.size=g→MapF ek ev D w' g (fun _=>none)→Ext w w' →w'.heap.size=g+1→K (.map (some g)) w'):
    Yk P K ((execOp (Ag ρ) ⟨d, .makeMap t none,ty,pos,af,gd⟩).run P w):=by
  refine Yk.value (v:= .map (some w.heap.size)) (w' :=w.alloc (.map #[] 0)) ?_ (hk _ _ rfl (MapF.made ek ev D w) ((Below.refl _ _).alloc (Nat.le_refl _) _) (by simp))
  unfold execOp
  simp[Instr.makeMap,newObj,Result.andThen]
  rfl
theorem Yk.lookMS(L:KL P Kt OK)(hD:∀a,D a→OK (ek a))(hi:∀a c,ek a=ek c→a=c)(ht:P.underlying t=some (.map Kt E)){z:Value}(hz:∀u:World,(zeroValue E).run P u = .ok z u){x y:Operand}{a:α}{c:β} 
    (hm:Ag ρ x = .map (some b)) (hy:Ag ρ y=ek a) (h:MapF ek ev D w b G) (ha:D a) (hG:G a=some c) (hk:K (ev c) w):Yk P K ((execOp (Ag ρ) ⟨d, .lookup t x y false,ty,pos,af,gd⟩).run P w):=
  Yk.lookM L hD hi ht hz hm hy h ha (by rw[hG];exact hk)
theorem Yk.build{parts:Array (Nat × Operand)}{vs:Array (Nat × Value)}{v:Value}(hv:(parts.map fun(i,x)=>(i,Ag ρ x))=vs)(hr:∀w:World,(Instr.build t vs).run P w = .ok v w)(hk:K v w):
    Yk P K ((execOp (Ag ρ) ⟨d, .build t parts,ty,pos,af,gd⟩).run P w):=by
  refine Yk.value (v:=v) (w' :=w) ?_ hk
  unfold execOp
  simp only[hv,hr,Sem.run_bind,Result.andThen_ok,Sem.run_pure]
theorem Yk.build1{i0:Nat}{x0:Operand}{a v:Value}(h0:Ag ρ x0=a)(hr:∀w:World,(Instr.build t #[(i0,a)]).run P w = .ok v w)(hk:K v w):Yk P K ((execOp (Ag ρ) ⟨d, .build t #[(i0,x0)],ty,pos,af,gd⟩).run P w):=
  Yk.build (by simp[h0]) hr hk
theorem Yk.build2{i0 i1:Nat}{x0 x1:Operand}{a b v:Value}(h0:Ag ρ x0=a)(h1:Ag ρ x1=b)(hr:∀w:World,(Instr.build t #[(i0,a),(i1,b)]).run P w = .ok v w)(hk:K v w):Yk P K ((execOp (Ag ρ) ⟨d, .build t #[(i0,x0),(i1,x1)],ty,pos,af,gd⟩).run P w):=
  Yk.build (by simp[h0,h1]) hr hk
theorem RG.slice{k:Nat}{enc:α→List Value}{v:Value}{l:List α}(h:RG k enc w v l):∃ao n c,v = .slice ao n c:=by
  obtain⟨ao,c,rfl⟩:=h.len
  exact⟨ao,_,c,rfl⟩
theorem Yk.mkIface{fs}(hu:P.underlying t=some (.struct fs)){x:Operand}{v:Value}(hx:Ag ρ x=v)(hk:K (.iface t v) w):Yk P K ((execOp (Ag ρ) ⟨d, .makeInterface t x,ty,pos,af,gd⟩).run P w):=by
  refine Yk.value (v:= .iface t v) (w' :=w) ?_ hk
  unfold execOp
  simp[Instr.makeInterface,hx,run_underlying hu,Result.andThen]
theorem Yk.lit1G{k:Nat}{enc:α→List Value}{e:TypeId}{x:Operand}{a:α}(hx:Ag ρ x = .agg (enc a).toArray)(hl:(enc a).length=k) 
    (hr:∀(cs:Array Value),cs.size=k→∀w:World,(Instr.buildSlice t 1 #[(0, .agg cs)]).run P w = .ok (.slice (some ⟨w.heap.size,0,none⟩) 1 1) (w.alloc (.cells cs e)))
    (hk:∀v w',RG k enc w' v [a]→Ext w w' →K v w'):Yk P K ((execOp (Ag ρ) ⟨d, .buildSlice t 1 #[(0,x)],ty,pos,af,gd⟩).run P w):=by
  have hE:Ext w (w.alloc (.cells (enc a).toArray e)):=(Below.refl _ _).alloc (Nat.le_refl _) _
  refine Yk.value (v:= .slice (some ⟨w.heap.size,0,none⟩) 1 1) (w' :=w.alloc (.cells (enc a).toArray e)) ?_ (hk _ _ (RG.single hl (heap_alloc_new w _)) hE)
  unfold execOp
  simp only[List.map_toArray,List.map_cons,List.map_nil,hx,Sem.run_bind,hr _ (show(enc a).toArray.size=k by rw[List.size_toArray];exact hl),Result.andThen_ok,Sem.run_pure]
theorem RG.elem{k:Nat}{enc:α→List Value}{v:Value}{l:List α}(h:RG k enc w v l)(dd:α){i:Nat}(hi:i<l.length):(enc (l.getD i dd)).length=k:=by
  refine h.1 _ ?_
  rw[List.getD_eq_getElem?_getD,List.getElem?_eq_getElem hi]
  exact List.getElem_mem hi
theorem RG.cut{k:Nat}{enc:α→List Value}{v:Value}{l:List α}(h:∀x∈l,(enc x).length=k){a c:Nat}(ha:a≤c)(hc:c≤l.length)(hR:Reads w k v (c-a) (((l.flatMap enc).drop (a*k)).take ((c-a)*k))):RG k enc w v ((l.drop a).take (c-a)):=by
  have hd:∀(l:List α) (n:Nat),(∀x∈l,(enc x).length=k)→(l.flatMap enc).drop (n*k)=(l.drop n).flatMap enc:=by
    intro l n
    induction n generalizing l with
    | zero=>intro _;simp
    | succ n ih=>
      intro h
      cases l with
      | nil=>simp
      | cons x r=>
        have hx:=h x (by simp)
        rw[List.flatMap_cons,List.drop_succ_cons,←ih r (fun y hy=>h y (by simp[hy])),show(n+1)*k=(enc x).length+n*k by rw[hx,Nat.add_mul];omega,List.drop_append,List.drop_of_length_le (by omega),Nat.add_sub_cancel_left,List.nil_append]
  have htk:∀(l:List α) (n:Nat),(∀x∈l,(enc x).length=k)→(l.flatMap enc).take (n*k)=(l.take n).flatMap enc:=by
    intro l n
    induction n generalizing l with
    | zero=>intro _;simp
    | succ n ih=>
      intro h
      cases l with
      | nil=>simp
      | cons x r=>
        have hx:=h x (by simp)
        rw[List.flatMap_cons,List.take_succ_cons,List.flatMap_cons,←ih r (fun y hy=>h y (by simp[hy])),show(n+1)*k=(enc x).length+n*k by rw[hx,Nat.add_mul];omega,List.take_append,List.take_of_length_le (by omega),Nat.add_sub_cancel_left]
  refine⟨fun x hx=>h x (List.mem_of_mem_drop (List.mem_of_mem_take hx)),?_⟩
  rw[hd l a h,htk _ _ (fun x hx=>h x (List.mem_of_mem_drop hx))]at hR
  rw[show((l.drop a).take (c-a)).length=c-a by rw[List.length_take,List.length_drop];omega]
  exact hR
theorem Yp.callA1{f:FuncId}(hp:AI P f){x0:Operand}{a:Value}{at_:Array TypeId}{J:List PanicEntry→World→Prop}(h0:Ag ρ x0=a) 
    (h:Calls P f #[a] w fun e w' =>match e with | .returned v=>K v w' | .panicked ch=>J ch w' | .outgrown=>False):Yp P K J ((execOp (Ag ρ) ⟨d, .call ⟨.value (.func f),#[x0],at_⟩,ty,pos,af,gd⟩).run P w):=
  Yp.call hp [a] (by simp[h0]) h
theorem Yp.callA2{f:FuncId}(hp:AI P f){x0 x1:Operand}{a b:Value}{at_:Array TypeId}{J:List PanicEntry→World→Prop}(h0:Ag ρ x0=a)(h1:Ag ρ x1=b) 
    (h:Calls P f #[a,b] w fun e w' =>match e with | .returned v=>K v w' | .panicked ch=>J ch w' | .outgrown=>False):Yp P K J ((execOp (Ag ρ) ⟨d, .call ⟨.value (.func f),#[x0,x1],at_⟩,ty,pos,af,gd⟩).run P w):=
  Yp.call hp [a,b] (by simp[h0,h1]) h
end
open Go.RowKit
section
variable {P : Program} {K : Value → World → Prop} {ρ : Au} {w : World} {d : Option Tmp} {ty : TypeId} {pos : String} {af : Array Edge} {gd : Option (Nat × Bool)}
theorem Yk.extern2{f:FuncId}{at_:Array TypeId}{x y:Operand}{a b v:Value}(hx:Ag ρ x=a)(hy:Ag ρ y=b)(hr:(callFunc f #[a,b]).run P w = .ok (.value v) w)(hk:K v w):Yk P K ((execOp (Ag ρ) ⟨d, .call ⟨.value (.func f),#[x,y],at_⟩,ty,pos,af,gd⟩).run P w):=by
  refine Yk.value (v:=v) (w' :=w) ?_ hk
  have hf:Ag ρ (.func f) = .func (.func f) #[] #[]:=rfl
  unfold execOp
  simp[resolve,hf,Deferred.ofValue,invoke,hx,hy,hr]
end
section
variable {P : Program} {w : World}
theorem RB.ofBlk{g:Nat}{l:List UInt8}{t:TypeId}{fr:Nat × Nat}(h:w.heap[g]? =some (.cells (Lib.byteCells l).toArray t fr))(hl:l.length≤9223372036854775807):RB w (.slice (some ⟨g,0,none⟩) l.length l.length) l:=
  ⟨by simp[Lib.byteCells],_,_,rfl,Nat.le_refl _,by unfold maxLen;omega,(fun h=>by cases h),fun a ha j u hu=>by
    cases ha
    rw[Addr.add_lit,Nat.zero_add]
    exact Al h hu⟩
theorem RB.ofBlkN{g n:Nat}{l:List UInt8}{t:TypeId}{fr:Nat × Nat}(h:w.heap[g]? =some (.cells (Lib.byteCells l).toArray t fr))(hn:l.length=n)(hl:n≤9223372036854775807):RB w (.slice (some ⟨g,0,none⟩) n n) l:=by
  subst hn
  exact RB.ofBlk h hl
theorem Yk.sliceArr{K:Value→World→Prop}{ρ:Tmp→Value}{t e:TypeId}{n:Nat}(ht:P.underlying t=some (.array n e))(he:∀w' :World,(sizeOf e).run P w' = .ok 1 w'){x:Operand}{d:Option Tmp}{ty:TypeId}{pos:String}{af:Array Edge}{gd:Option (Nat × Bool)}{w:World}{b o:Nat} 
    (hx:Ag ρ x = .pointer (some ⟨b,o,none⟩)) (hk:K (.slice (some ⟨b,o,none⟩) n n) w):Yk P K ((execOp (Ag ρ) ⟨d, .slice t x none none none,ty,pos,af,gd⟩).run P w):=by
  refine Yk.value (v:= .slice (some ⟨b,o,none⟩) n n) (w' :=w) ?_ hk
  have hE:P.elem t=e:=by simp[Program.elem,ht]
  have hN:P.arrayLen t=n:=by simp[Program.arrayLen,ht]
  have hr:=run_sliceAt_array_all (P:=P) (w:=w) (t:=t) (a:=⟨b,o,none⟩) (by rw[hE,hN];exact ht)
  rw[hE,he,hN]at hr
  unfold execOp
  simp only[hx,Option.map_none,Sem.run_bind,hr,Result.andThen_ok,Sem.run_pure]
  simp[slicedAt,Addr.add_lit]
end
def Ai(x:BS):Bool:=decide (x.1=List.replicate 32 0)
theorem NC{α:Type}{l:List α}{i:Nat}(d:α)(h:i<l.length):l.drop i=l.getD i d :: l.drop (i+1):=by
  rw[List.drop_eq_getElem_cons h,List.getD_eq_getElem?_getD,List.getElem?_eq_getElem h];rfl
theorem CB{α:Type}{l:List α}{i:Nat}(d:α)(h:i<l.length):l.getD i d∈l:=by
  rw[List.getD_eq_getElem?_getD,List.getElem?_eq_getElem h];exact List.getElem_mem h
theorem Ct{l:List UInt8}(h:(Lib.byteCells l).length=32):l.length=32:=by rwa [Lib.byteCells_length]at h
open Go.RowKit
theorem Yp.mono'{P:Program}{K K' :Value→World→Prop}{J J' :List PanicEntry→World→Prop}{r:Result Next}(h:Yp P K J r)(hm:∀v w,K v w→K' v w)(hj:∀c w,J c w→J' c w):Yp P K' J' r:=by
  match r,h with
  | .ok (.value v) w',h=>exact hm _ _ h
  | .ok .skip w',h=>exact hm _ _ h
  | .halt (.panic v) w',h=>exact hj _ _ h
  | .ok (.enter f args) w',h=>
    refine Calls.mono h fun e w'' hx=> ?_
    match e,hx with
    | .returned v,hx=>exact hm _ _ hx
    | .panicked ch,hx=>exact hj _ _ hx
open Go.RowKit
section
variable {P : Program} {l : List Oper} {kill : Nat → List Nat} {C : Nat → World → Prop} {R : Nat → World → World → Prop} {Φ : Nat → Bv} {a0 : Act}
theorem Pt(g:FI l a0.tmps.size)(hkl:CX l kill=true){L:Nat}{oL:Oper}(hn:Ho l L=true)(hoL:l[L]? =some oL)(hgL:oL.guard=none) 
    (hC:∀n m,n<l.length→m<l.length→n≠m→((A9 l []).getD n 0).testBit m=false→∀w w',C m w→R n w w' →C m w') (hΦ:∀n i,n<l.length→i<l.length→i∉kill n→i≠n→((A9 l []).getD i 0).testBit n=false→∀v w w',Φ i v w→R n w w' →Φ i v w') (hRr:∀n o w,l[n]? =some o→o.guard.isSome=true→R n w w) (hs:∀i o,l[i]? =some o→i≠L→E7 P l C R Φ a0.tmps i o) {Q:Exit→Act→World→Prop}
    (hQ:∀listed a' w',(∀i,i<l.length→i≠L→On listed i)→¬On listed L→Inv l kill C (fun _ _=>True) Φ a0 listed a' w' →Yp P (fun v w'' =>Q .normal (a'.put oL.dst v) w'') (fun ch w'' =>Q (.panic ch) a' w'') ((execOp a'.eval oL).run P w')):
    ∀(fuel:Nat) (listed:Array Bool) (a:Act) (w:World),(listed.toList.filter (!·)).length=fuel→¬On listed L→Inv l kill C (fun _ _=>True) Φ a0 listed a w→wpAny P .any l.toArray Q fuel listed a w:=by
  obtain⟨hlen,hb⟩:=Jp hn
  have rdy:∀(listed:Array Bool),listed.size=l.length→(∀i,i<l.length→On listed i)→Region.ready .any l.toArray listed= []:=by
    intro listed hsz hon
    cases hr:Region.ready .any l.toArray listed with
    | nil=>rfl
    | cons x xs=>
      exfalso
      have hm:x∈Region.ready .any l.toArray listed:=by rw[hr];simp
      obtain⟨h1,o,ho,_⟩:=mem_ready.1 hm
      have hx:x<l.length:=by simpa using (Array.getElem?_eq_some_iff.1 ho).1
      have h2:=hon x hx
      have hx' :x<listed.size:=h2.lt
      unfold On at h2
      simp[hx']at h1 h2
      rw[h1]at h2
      cases h2
  intro fuel
  induction fuel with
  | zero=>
    intro listed a w hf hoff h
    exfalso
    have:=D9 _ hf L (by rw[Array.length_toList,h.size];omega)
    exact hoff (by unfold On;simp at this;simp[this])
  | succ fuel ih=>
    intro listed a w hf hoff h
    have hstep:∀i∈Region.ready .any l.toArray listed,∃o,l[i]? =some o∧¬On listed i∧(∀e∈o.after,Region.binds .any e=true→On listed e.on)∧((listed.setIfInBounds i true).toList.filter (!·)).length=fuel:=by
      intro i hi
      obtain⟨h1,o,ho,hall⟩:=mem_ready.1 hi
      have ho' :l[i]? =some o:=by simpa using ho
      have hil:i<listed.size:=by rw[h.size];exact(List.getElem?_eq_some_iff.1 ho').1
      refine⟨o,ho',?_,fun e he hb=>hall e he hb,?_⟩
      · unfold On
        simp[hil]at h1 ⊢
        exact h1
      · rw[Array.toList_setIfInBounds]
        have:=DX listed.toList i (by
          simp[hil]at h1
          simp[hil,h1])
        omega
    refine⟨fun hr=> ?_,fun i hi=> ?_⟩
    · exfalso
      have full:∀i,i<l.length→On listed i:=by
        intro i
        induction i using Nat.strongRecOn with
        | _ i ih=>
          intro hi
          refine Classical.byContradiction fun hno=> ?_
          have ho:l[i]? =some l[i]:=List.getElem?_eq_getElem hi
          have:i∈Region.ready .any l.toArray listed:=by
            refine mem_ready.2 ⟨?_,l[i],by rw[List.getElem?_toArray];exact ho,fun e he hb=> ?_⟩
            · have hi' :i<listed.size:=by rw[h.size];exact hi
              unfold On at hno
              simp[hi']at hno ⊢
              exact hno
            · have hlt:=g.back i _ ho e he hb
              exact ih e.on hlt (by omega)
          rw[hr]at this
          cases this
      exact hoff (full L (by omega))
    · obtain⟨o,ho,hno,hall,hcnt⟩:=hstep i hi
      by_cases hiL:i=L
      · subst hiL
        obtain rfl:oL=o:=by rw[hoL]at ho;exact Option.some.inj ho
        have hon:∀j,j<l.length→j≠i→On listed j:=fun j hj hne=>h.maskReady ho hall (hb j (by omega))
        have hst:=hQ listed a w hon hno h
        have hall' :∀j,j<l.length→On (listed.setIfInBounds i true) j:=fun j hj=>by
          by_cases hji:j=i
          · exact(on_set (by rw[h.size];omega)).2 (.inl hji)
          · exact(on_set (by rw[h.size];omega)).2 (.inr (hon j hj hji))
        have hr:=rdy (listed.setIfInBounds i true) (by simpa using h.size) hall'
        have fin:∀v w',Q .normal (a.put oL.dst v) w' →wpAny P .any l.toArray Q fuel (listed.setIfInBounds i true) (a.put oL.dst v) w' :=fun v w' hq=>by
          cases fuel with
          | zero=>exact⟨hr,hq⟩
          | succ m=>exact⟨fun _=>hq,fun j hj=>by rw[hr]at hj;cases hj⟩
        unfold wpOp
        simp only[List.getElem?_toArray,ho]
        have hw:Region.wanted oL (yielded l.toArray a.tmps)=true:=by unfold Region.wanted;rw[hgL]
        rw[if_pos hw]
        refine .inl ?_
        unfold Oper.wp
        generalize (execOp a.eval oL).run P w=r at hst ⊢
        match r,hst with
        | .ok (.value v) w',hst=>exact fin _ _ hst
        | .ok .skip w',hst=>exact fin _ _ hst
        | .halt (.panic v) w',hst=>exact hst
        | .ok (.enter f args) w',hst=>
          refine Calls.mono hst fun e w'' hx=> ?_
          match e,hx with
          | .returned v,hx=>exact fin _ _ hx
          | .panicked ch,hx=>exact hx
      · refine h.step g hkl hC (fun _ _ _ _ _ _ _ _ _ _=>trivial) hΦ hRr ho hno hall (hs i o ho hiL) fun a' w' h' =>ih _ _ _ hcnt (fun hx=> ?_) h'
        exact((on_set (by rw[h.size];exact(List.getElem?_eq_some_iff.1 ho).1)).1 hx).elim (fun e=>hiL e.symm) hoff
end
section
variable {P : Program} {n : Nat} {ρ : Au} {w : World} {Q : Ce}
theorem Ja{l:List Oper}(L:Nat)(oL:Oper)(ks:Nat→List Nat)(C:Nat→World→Prop)(R:Nat→World→World→Prop)(Φs:List Bv){id:Nat}(hm:P.follows .mixedOrders=true)(ds:List Tmp)(hg:CQ l n=true)(hn:Ho l L=true)(hkl:CX l ks=true)(hds:slotsW l=ds)(hoL:l[L]? =some oL)(hgL:oL.guard=none)(hd:(match oL.dst with | some d=>Nat.blt d n | none=>true)=true)(hΦL:∀v w,Bo Φs L v w) 
    (hC:∀n m,n<l.length→m<l.length→n≠m→((A9 l []).getD n 0).testBit m=false→∀w w',C m w→R n w w' →C m w')
    (hΦ:∀n i,n<l.length→i<l.length→i∉ks n→i≠n→((A9 l []).getD i 0).testBit n=false→∀v w w',Bo Φs i v w→R n w w' →Bo Φs i v w')
    (hRr:∀n o w,l[n]? =some o→o.guard.isSome=true→R n w w) (h0:∀n,n<l.length→C n { w with drawn:=w.drawn+1 })
    (hs:StepsFL P l L C R (Bo Φs) ρ 0 l)
    (hQ:∀(ρ' :Au) w1,C L w1→EndF ds ρ ρ' →BY l ks (Bo Φs) ρ' w1 ds→Yp P (fun v w' =>Q .normal (BC ρ' oL.dst v) w') (fun ch w' =>Q (.panic ch) ρ' w') ((execOp (Ag ρ') oL).run P w1)):Cf P n (.region id l.toArray true) Q ρ w:=by
  intro a ha
  obtain⟨T,df⟩:=a
  have hz:T.size=n:=ha.size
  subst hz
  obtain⟨hl,hb⟩:=Jp hn
  have g:=E0 hg
  refine wp_region_any hm (Pt (a0:= { tmps:=T,defers:=df }) (C:=C) (R:=R) (Φ:=Bo Φs) g hkl hn hoL hgL hC hΦ hRr (fun i o ho hi=> ?_) (fun listed a' w' hon hoff h=> ?_) _ _ _ _ (by simp) ?_ ?_)
  · have hst:=StepsFL.get l 0 hs i o ho (by omega)
    rw[Nat.zero_add]at hst
    have h2:=StepsF.ok (P:=P) (l:=l) (C:=C) (R:=R) (Φ:=Bo Φs) (T:=T) ha.get [o] i ⟨hst,trivial⟩
    exact h2.1
  · -- what the slots hold
    have hw:∀d k,CN l d l.length=some k→(List.range l.length).all (fun n=> !(ks n).contains k)=true→Bo Φs k (a'.tmps.getD d undef) w' :=fun d k hk hall=>by
      obtain⟨h1,⟨o,ho,hd'⟩,h3⟩:=Dp _ hk
      by_cases hkL:k=L
      · rw[hkL];exact hΦL _ _
      refine h.new d k o ho hd' (hon k h1 hkL) (fun k' o' hkk ho' hd'' _=>h3 k' o' hkk (List.getElem?_eq_some_iff.1 ho').1 ho' hd'') (fun n hn hkn=> ?_)
      have hnl:n<l.length:=by have:=hn.lt;rw[h.size]at this;exact this
      have:=List.all_eq_true.1 hall n (by simpa using hnl)
      simp at this
      exact this hkn
    have hget:∀t,a'.tmps.getD t undef=if t∈ds then a'.tmps.getD t undef else ρ t:=fun t=>by
      by_cases hn:t∈ds
      · rw[if_pos hn]
      · rw[if_neg hn,←ha.get]
        exact h.old t fun k o ho hd _=>hn (by
          rw[←hds]
          unfold slotsW
          rw[List.mem_eraseDups,List.mem_filterMap]
          exact⟨o,List.mem_of_getElem? ho,hd⟩)
    have hcl:=h.cls L (by omega) hoff
    have hend:EndF ds ρ (fun t=>a'.tmps.getD t undef):=⟨fun t ht=>by rw[hget t,if_neg (by simpa using ht)]⟩
    have:=hQ (fun t=>a'.tmps.getD t undef) w' hcl hend (DF hw ds)
    rw[evalR_eq]at this
    have hfit:Fits _ (fun t=>a'.tmps.getD t undef) a' :=⟨h.tmps,h.defers.trans ha.defers,fun t=>rfl⟩
    have hdn:∀t,oL.dst=some t→t<_:=fun t ht=>by rw[ht]at hd;exact Nat.le_of_ble_eq_true hd
    exact Yp.mono' this (fun v w'' hq=>⟨_,hfit.put oL.dst hdn v,hq⟩) (fun ch w'' hq=>⟨_,⟨h.tmps,h.defers.trans ha.defers,fun t=>rfl⟩,hq⟩)
  · intro h
    unfold On at h
    rw[Array.getD_eq_getD_getElem?,Array.getElem?_replicate]at h
    split at h <;> simp at h
  · have hno:∀i,¬On (Array.replicate l.toArray.size false) i:=fun i h=>by
      unfold On at h
      rw[Array.getD_eq_getD_getElem?,Array.getElem?_replicate]at h
      split at h <;> simp at h
    exact⟨Array.size_replicate,fun i o _ h=>absurd h (hno i),rfl,rfl,fun n hn _=>h0 n hn,trivial,fun t _=>rfl,fun t k o _ _ h=>absurd h (hno k)⟩
theorem Kk{l:List Oper}(L:Nat)(oL:Oper)(Φs:List Bv){id:Nat}(hm:P.follows .mixedOrders=true)(ds:List Tmp)(hg:CQ l n=true)(hn:Ho l L=true)(hds:slotsW l=ds) 
    (hoL:l[L]? =some oL) (hgL:oL.guard=none) (hd:(match oL.dst with | some d=>Nat.blt d n | none=>true)=true) (hΦL:∀v w,Bo Φs L v w) (hst:AllStab Ext Φs)
    (hs:StepsFL P l L (fun _=>Ext w) (fun _=>Ext) (Bo Φs) ρ 0 l)
    (hQ:∀(ρ' :Au) w1,Ext w w1→EndF ds ρ ρ' →BY l (fun _=> []) (Bo Φs) ρ' w1 ds→Yp P (fun v w' =>Q .normal (BC ρ' oL.dst v) w') (fun ch w' =>Q (.panic ch) ρ' w') ((execOp (Ag ρ') oL).run P w1)):Cf P n (.region id l.toArray true) Q ρ w:=
  Ja L oL (fun _=> []) (fun _=>Ext w) (fun _=>Ext) Φs hm ds hg hn (by unfold CX;simp) hds hoL hgL hd hΦL (fun _ _ _ _ _ _ _ _ hc hr=>hc.trans hr) (fun _ i _ _ _ _ _ v w1 w' =>hst.get Φs i v w1 w') (fun _ _ w1 _ _=>Ext.refl w1) (fun _ _=>(Below.refl _ _).drew) hs hQ
theorem ML{ρ:Au}{d:Option Tmp}{v:Value}{t:Tmp}(h:some t≠d):BC ρ d v t=ρ t:=by
  cases d with
  | none=>rfl
  | some d=>
    show(bif Nat.beq t d then v else ρ t)=ρ t
    cases e:Nat.beq t d with
    | false=>rfl
    | true=>exact absurd (congrArg some (Nat.eq_of_beq_eq_true e)) h
theorem DP{l:List Oper}(L:Nat)(oL:Oper)(Φs:List Bv){id:Nat}(hm:P.follows .mixedOrders=true)(ds:List Tmp)(hg:CQ l n=true)(hn:Ho l L=true)(hds:slotsW l=ds) 
    (hoL:l[L]? =some oL) (hgL:oL.guard=none) (hd:(match oL.dst with | some d=>Nat.blt d n | none=>true)=true) (hΦL:∀v w,Bo Φs L v w) (hst:AllStab Ext Φs)
    (hs:StepsFL P l L (fun _=>Ext w) (fun _=>Ext) (Bo Φs) ρ 0 l)
    (hQ:∀(ρ' :Au) w1,Ext w w1→EndF ds ρ ρ' →BY l (fun _=> []) (Bo Φs) ρ' w1 ds→Yp P (fun _ w' =>∀ρ'' :Au,(∀t,some t≠oL.dst→ρ'' t=ρ' t)→Q .normal ρ'' w') (fun ch w' =>Q (.panic ch) ρ' w') ((execOp (Ag ρ') oL).run P w1)):Cf P n (.region id l.toArray true) Q ρ w:=
  Kk L oL Φs hm ds hg hn hds hoL hgL hd hΦL hst hs fun ρ' w1 h1 h2 h3=>Yp.mono' (hQ ρ' w1 h1 h2 h3) (fun _ _ h=>h _ fun _ ht=>ML ht) (fun _ _ h=>h)
end
open Go.RowKit
def KB(l:List Oper)(k:Nat):Bool:=(List.range l.length).all fun i=>Nat.blt i k||(List.range i).all fun m=>((A9 l []).getD i 0).testBit m
theorem ND{l:List Oper}{k:Nat}(h:KB l k=true):∀i,k≤i→i<l.length→∀m,m<i→((A9 l []).getD i 0).testBit m=true:=fun i hi hl m hm=>by
  unfold KB at h
  have h1:=List.all_eq_true.1 h i (by simpa using hl)
  rcases Bool.or_eq_true _ _▸h1 with h2 | h2
  · have:=Nat.le_of_ble_eq_true h2
    omega
  · exact List.all_eq_true.1 h2 m (by simpa using hm)
section
variable {P : Program} {l : List Oper} {kill : Nat → List Nat} {C : Nat → World → Prop} {R : Nat → World → World → Prop} {Φ : Nat → Bv} {a0 : Act}
def StepsFC(P:Program)(l:List Oper)(L:Nat)(C:Nat→World→Prop)(R:Nat→World→World→Prop)(Φ:Nat→Bv)(ρ:Au):Nat→List Oper→Prop
  | _,[]=>True
  | n,o :: r=>(bif Nat.ble L n then True else DB P l C R Φ ρ n o)∧StepsFC P l L C R Φ ρ (n+1) r
theorem Ax{L n:Nat}{ρ:Au}{o:Oper}(h:DB P l C R Φ ρ n o):bif Nat.ble L n then True else DB P l C R Φ ρ n o:=by
  cases Nat.ble L n
  · exact h
  · trivial
theorem StepsFC.get{L:Nat}{ρ:Au}:∀(r:List Oper) (n:Nat),StepsFC P l L C R Φ ρ n r→∀k o,r[k]? =some o→n+k<L→DB P l C R Φ ρ (n+k) o
  | [],_,_,k,o,h,_=>by simp at h
  | o' :: r,n,hs,0,o,h,hne=>by
    simp only[List.getElem?_cons_zero,Option.some.injEq]at h
    subst h
    have h1:=hs.1
    rw[show Nat.ble L n=false by rw[←Bool.not_eq_true];exact fun x=>by have:=Nat.le_of_ble_eq_true x;omega]at h1
    exact h1
  | o' :: r,n,hs,k+1,o,h,hne=>by
    rw[List.getElem?_cons_succ]at h
    have:=StepsFC.get r (n+1) hs.2 k o h (by omega)
    rwa [show n+1+k=n+(k+1) by omega]at this
theorem Ld{z:Nat}(g:FI l z){k:Nat}(ht:∀i,k≤i→i<l.length→∀m,m<i→((A9 l []).getD i 0).testBit m=true){Q:Exit→Act→World→Prop}:
    ∀(fuel m:Nat) (listed:Array Bool) (a:Act) (w:World),listed.size=l.length→(∀i,On listed i↔i<m)→k≤m→m≤l.length→l.length≤m+fuel→wpList P l.toArray Q (l.drop m) a w→wpAny P .any l.toArray Q fuel listed a w:=by
  have noReady:∀(m:Nat) (listed:Array Bool),listed.size=l.length→(∀i,On listed i↔i<m)→l.length≤m→Region.ready .any l.toArray listed= []:=by
    intro m listed hsz hon hm
    cases hr:Region.ready .any l.toArray listed with
    | nil=>rfl
    | cons x xs=>
      exfalso
      have hmem:x∈Region.ready .any l.toArray listed:=by rw[hr];simp
      obtain⟨h1,o,ho,_⟩:=mem_ready.1 hmem
      have hx:x<l.length:=by simpa using (Array.getElem?_eq_some_iff.1 ho).1
      have h2:=(hon x).2 (by omega)
      have hx' :x<listed.size:=h2.lt
      unfold On at h2
      simp[hx']at h1 h2
      rw[h1]at h2
      cases h2
  intro fuel
  induction fuel with
  | zero=>
    intro m listed a w hsz hon hk hm hf hw
    rw[List.drop_of_length_le (by omega)]at hw
    exact⟨noReady m listed hsz hon (by omega),hw⟩
  | succ fuel ih=>
    intro m listed a w hsz hon hk hm hf hw
    by_cases hml:m=l.length
    · have hr:=noReady m listed hsz hon (by omega)
      rw[List.drop_of_length_le (by omega)]at hw
      exact⟨fun _=>hw,fun i hi=>by rw[hr]at hi;cases hi⟩
    · have hlt:m<l.length:=by omega
      have hoff:¬On listed m:=fun x=>by have:=(hon m).1 x;omega
      have hI:Inv l (fun _=> []) (fun _ _=>True) (fun _ _=>True) (fun _ _ _=>True) a listed a w:=
        ⟨hsz,fun i o ho hi e he hb=>(hon _).2 (by have:=g.back i o ho e he hb;have:=(hon i).1 hi;omega),rfl,rfl,fun _ _ _=>trivial,trivial,fun _ _=>rfl,fun _ _ _ _ _ _ _ _=>trivial⟩
      refine⟨fun hr=> ?_,fun i hi=> ?_⟩
      · exfalso
        have ho:l[m]? =some l[m]:=List.getElem?_eq_getElem hlt
        have:m∈Region.ready .any l.toArray listed:=by
          refine mem_ready.2 ⟨?_,l[m],by rw[List.getElem?_toArray];exact ho,fun e he hb=>(hon _).2 (g.back m _ ho e he hb)⟩
          have hm' :m<listed.size:=by omega
          unfold On at hoff
          simp[hm']at hoff ⊢
          exact hoff
        rw[hr]at this
        cases this
      · obtain⟨h1,o,ho,hall⟩:=mem_ready.1 hi
        have ho' :l[i]? =some o:=by simpa using ho
        have hil:i<l.length:=(List.getElem?_eq_some_iff.1 ho').1
        have hno:¬On listed i:=fun x=>by
          have hx:i<listed.size:=by omega
          unfold On at x
          simp[hx]at h1 x
          rw[h1]at x
          cases x
        have him:i=m:=by
          by_cases h2:i<m
          · exact absurd ((hon i).2 h2) hno
          · by_cases h3:i=m
            · exact h3
            · exact absurd (hI.maskReady ho' (fun e he hb=>hall e he hb) (ht i (by omega) hil m (by omega))) hoff
        subst him
        rw[List.drop_eq_getElem_cons hlt]at hw
        obtain rfl:l[i]=o:=by rw[List.getElem?_eq_getElem hlt]at ho';exact Option.some.inj ho'
        have nxt:∀a' w',wpList P l.toArray Q (l.drop (i+1)) a' w' →wpAny P .any l.toArray Q fuel (listed.setIfInBounds i true) a' w' :=fun a' w' hw' =>
          ih (i+1) _ a' w' (by simpa using hsz) (fun j=>by rw[on_set (by omega),hon j];omega) (by omega) (by omega) (by omega) hw'
        unfold wpOp
        simp only[List.getElem?_toArray,ho']
        unfold wpList at hw
        split at hw
        · rename_i hwt
          rw[if_pos hwt]
          exact hw.imp (fun h=>Oper.wp_mono nxt h) (fun h=>h)
        · rename_i hwt
          rw[if_neg hwt]
          exact nxt _ _ hw
theorem Qs{E:Array Bool→World→Prop}(hE:∀n listed w w',n<l.length→listed.size=l.length→¬On listed n→(∀i k,On listed i∨i=n→((A9 l []).getD i 0).testBit k=true→On listed k)→E listed w→R n w w' →E (listed.setIfInBounds n true) w')(g:FI l a0.tmps.size)(hkl:CX l kill=true){k:Nat}(ht:∀i,k≤i→i<l.length→∀m,m<i→((A9 l []).getD i 0).testBit m=true)(hk:k≤l.length) 
    (hC:∀n m,n<l.length→m<l.length→n≠m→((A9 l []).getD n 0).testBit m=false→∀w w',C m w→R n w w' →C m w') (hΦ:∀n i,n<l.length→i<l.length→i∉kill n→i≠n→((A9 l []).getD i 0).testBit n=false→∀v w w',Φ i v w→R n w w' →Φ i v w') (hRr:∀n o w,l[n]? =some o→o.guard.isSome=true→R n w w) (hs:∀i o,l[i]? =some o→i<k→E7 P l C R Φ a0.tmps i o) {Q:Exit→Act→World→Prop}
    (hQ:∀listed a' w',(∀i,On listed i↔i<k)→Inv l kill C E Φ a0 listed a' w' →wpList P l.toArray Q (l.drop k) a' w'):
    ∀(fuel:Nat) (listed:Array Bool) (a:Act) (w:World),(listed.toList.filter (!·)).length=fuel→(∀i,On listed i→i<k)→Inv l kill C E Φ a0 listed a w→wpAny P .any l.toArray Q fuel listed a w:=by
  intro fuel
  induction fuel with
  | zero=>
    intro listed a w hf hoff h
    have full:∀i,i<l.length→On listed i:=fun i hi=>by
      have:=D9 _ hf i (by rw[Array.length_toList,h.size];omega)
      unfold On
      simp at this
      simp[this]
    have hkl' :k=l.length:=by
      by_cases e:k=l.length
      · exact e
      · have:=hoff k (full k (by omega));omega
    exact Ld g ht 0 k listed a w h.size (fun i=>⟨hoff i,fun hi=>full i (by omega)⟩) (Nat.le_refl _) hk (by omega) (hQ listed a w (fun i=>⟨hoff i,fun hi=>full i (by omega)⟩) h)
  | succ fuel ih=>
    intro listed a w hf hoff h
    by_cases hfull:∀i,i<k→On listed i
    · have hon:∀i,On listed i↔i<k:=fun i=>⟨hoff i,hfull i⟩
      refine Ld g ht (fuel+1) k listed a w h.size hon (Nat.le_refl _) hk ?_ (hQ listed a w hon h)
      have e:=List.take_append_drop k listed.toList
      rw[←e,List.filter_append,List.length_append]at hf
      have c:(listed.toList.drop k).filter (!·)=listed.toList.drop k:=List.filter_eq_self.2 fun b hb=>by
        obtain⟨j,hj,rfl⟩:=List.getElem_of_mem hb
        rw[List.getElem_drop]
        have hno:¬On listed (k+j):=fun x=>by have:=hoff _ x;omega
        rw[List.length_drop]at hj
        have hlt:k+j<listed.size:=by rw[←Array.length_toList];omega
        unfold On at hno
        simp[hlt]at hno
        simp[hno]
      rw[c,List.length_drop]at hf
      have hz:listed.toList.length=l.length:=by rw[Array.length_toList];exact h.size
      omega
    · have hlow:∃j,j<k∧¬On listed j:=by
        refine Classical.byContradiction fun hn=>hfull fun i hi=>Classical.byContradiction fun hx=>hn ⟨i,hi,hx⟩
      obtain⟨j0,hj0,hoff0⟩:=hlow
      refine⟨fun hr=> ?_,fun i hi=> ?_⟩
      · exfalso
        have full:∀i,i<l.length→On listed i:=by
          intro i
          induction i using Nat.strongRecOn with
          | _ i ih2=>
            intro hi
            refine Classical.byContradiction fun hno=> ?_
            have ho:l[i]? =some l[i]:=List.getElem?_eq_getElem hi
            have:i∈Region.ready .any l.toArray listed:=by
              refine mem_ready.2 ⟨?_,l[i],by rw[List.getElem?_toArray];exact ho,fun e he hb=> ?_⟩
              · have hi' :i<listed.size:=by rw[h.size];exact hi
                unfold On at hno
                simp[hi']at hno ⊢
                exact hno
              · have hlt:=g.back i _ ho e he hb
                exact ih2 e.on hlt (by omega)
            rw[hr]at this
            cases this
        exact hoff0 (full j0 (by omega))
      · obtain⟨h1,o,ho,hall0⟩:=mem_ready.1 hi
        have ho' :l[i]? =some o:=by simpa using ho
        have hilt:i<l.length:=(List.getElem?_eq_some_iff.1 ho').1
        have hil:i<listed.size:=by rw[h.size];exact hilt
        have hno:¬On listed i:=by
          unfold On
          simp[hil]at h1 ⊢
          exact h1
        have hall:∀e∈o.after,Region.binds .any e=true→On listed e.on:=fun e he hb=>hall0 e he hb
        have hik:i<k:=by
          by_cases h2:i<k
          · exact h2
          · exact absurd (h.maskReady ho' hall (ht i (by omega) hilt j0 (by omega))) hoff0
        have hcnt:((listed.setIfInBounds i true).toList.filter (!·)).length=fuel:=by
          rw[Array.toList_setIfInBounds]
          have:=DX listed.toList i (by
            simp[hil]at h1
            simp[hil,h1])
          omega
        refine h.step g hkl hC hE hΦ hRr ho' hno hall (hs i o ho' hik) fun a' w' h' =>ih _ _ _ hcnt (fun j hx=> ?_) h'
        rcases(on_set hil).1 hx with rfl | h3
        · exact hik
        · exact hoff j h3
end
section
variable {P : Program} {n : Nat} {ρ : Au} {w : World} {Q : Ce}
theorem Kl{l r:List Oper}(k0:Nat)(ks:Nat→List Nat)(C:Nat→World→Prop)(R:Nat→World→World→Prop)(E:Array Bool→World→Prop)(Φs:List Bv){id:Nat}(hm:P.follows .mixedOrders=true)(ds:List Tmp)(hg:CQ l n=true)(hn:KB l k0=true)(c:Nat.ble Φs.length k0=true)(hkl:CX l ks=true)(hds:slotsW l=ds)(hr:(l.drop k0)=r) 
    (hC:∀n m,n<l.length→m<l.length→n≠m→((A9 l []).getD n 0).testBit m=false→∀w w',C m w→R n w w' →C m w')
    (hΦ:∀n i,n<l.length→i<l.length→i∉ks n→i≠n→((A9 l []).getD i 0).testBit n=false→∀v w w',Bo Φs i v w→R n w w' →Bo Φs i v w')
    (hE:∀n listed w w',n<l.length→listed.size=l.length→¬On listed n→(∀i k,On listed i∨i=n→((A9 l []).getD i 0).testBit k=true→On listed k)→E listed w→R n w w' →E (listed.setIfInBounds n true) w') (f:E (Array.replicate l.toArray.size false) { w with drawn:=w.drawn+1 })
    (hRr:∀n o w,l[n]? =some o→o.guard.isSome=true→R n w w) (h0:∀n,n<l.length→C n { w with drawn:=w.drawn+1 })
    (hs:StepsFC P l k0 C R (Bo Φs) ρ 0 l)
    (hlt:Nat.blt k0 l.length=true) (hQ:∀(ρ' :Au) w1 listed,(∀i,On listed i↔i<k0)→E listed w1→C k0 w1→EndF ds ρ ρ' →BY l ks (Bo Φs) ρ' w1 ds→Cn P l.toArray n Q r ρ' w1):Cf P n (.region id l.toArray true) Q ρ w:=by
  intro a ha
  obtain⟨T,df⟩:=a
  have hz:T.size=n:=ha.size
  subst hz
  have b:k0<l.length:=Nat.le_of_ble_eq_true hlt
  have g:=E0 hg
  refine wp_region_any hm (Qs hE (a0:= { tmps:=T,defers:=df }) (C:=C) (R:=R) (Φ:=Bo Φs) g hkl (ND hn) (Nat.le_of_lt b) hC hΦ hRr (fun i o ho hi=> ?_) (fun listed a' w' hon h=> ?_) _ _ _ _ (by simp) ?_ ?_)
  · have hst:=StepsFC.get l 0 hs i o ho (by omega)
    rw[Nat.zero_add]at hst
    have h2:=StepsF.ok (P:=P) (l:=l) (C:=C) (R:=R) (Φ:=Bo Φs) (T:=T) ha.get [o] i ⟨hst,trivial⟩
    exact h2.1
  · -- what the slots hold
    have hw:∀d k,CN l d l.length=some k→(List.range l.length).all (fun n=> !(ks n).contains k)=true→Bo Φs k (a'.tmps.getD d undef) w' :=fun d k hk hall=>by
      obtain⟨h1,⟨o,ho,hd'⟩,h3⟩:=Dp _ hk
      by_cases hkL:k0≤k
      · have e:Bo Φs k=fun _ _=>True:=by
          have:=Nat.le_of_ble_eq_true c
          unfold Bo
          rw[List.getD_eq_getElem?_getD,List.getElem?_eq_none (by omega)]
          rfl
        rw[e]
        trivial
      refine h.new d k o ho hd' ((hon k).2 (by omega)) (fun k' o' hkk ho' hd'' _=>h3 k' o' hkk (List.getElem?_eq_some_iff.1 ho').1 ho' hd'') (fun n hn hkn=> ?_)
      have hnl:n<l.length:=by have:=hn.lt;rw[h.size]at this;exact this
      have:=List.all_eq_true.1 hall n (by simpa using hnl)
      simp at this
      exact this hkn
    have hget:∀t,a'.tmps.getD t undef=if t∈ds then a'.tmps.getD t undef else ρ t:=fun t=>by
      by_cases hn:t∈ds
      · rw[if_pos hn]
      · rw[if_neg hn,←ha.get]
        exact h.old t fun k o ho hd _=>hn (by
          rw[←hds]
          unfold slotsW
          rw[List.mem_eraseDups,List.mem_filterMap]
          exact⟨o,List.mem_of_getElem? ho,hd⟩)
    have hcl:=h.cls k0 b (fun x=>by have:=(hon k0).1 x;omega)
    have hend:EndF ds ρ (fun t=>a'.tmps.getD t undef):=⟨fun t ht=>by rw[hget t,if_neg (by simpa using ht)]⟩
    have:=hQ (fun t=>a'.tmps.getD t undef) w' listed hon h.ecl hcl hend (DF hw ds)
    rw[hr]
    exact this a' ⟨h.tmps,h.defers.trans ha.defers,fun t=>rfl⟩
  · intro i h
    unfold On at h
    rw[Array.getD_eq_getD_getElem?,Array.getElem?_replicate]at h
    split at h <;> simp at h
  · have hno:∀i,¬On (Array.replicate l.toArray.size false) i:=fun i h=>by
      unfold On at h
      rw[Array.getD_eq_getD_getElem?,Array.getElem?_replicate]at h
      split at h <;> simp at h
    exact⟨Array.size_replicate,fun i o _ h=>absurd h (hno i),rfl,rfl,fun n hn _=>h0 n hn,f,fun t _=>rfl,fun t k o _ _ h=>absurd h (hno k)⟩
theorem Cw{l r:List Oper}(k0:Nat)(Φs:List Bv){id:Nat}(hm:P.follows .mixedOrders=true)(ds:List Tmp)(hg:CQ l n=true)(hn:KB l k0=true)(a:Nat.ble Φs.length k0=true)(hds:slotsW l=ds)(hr:(l.drop k0)=r)(hlt:Nat.blt k0 l.length=true)(hst:AllStab Ext Φs) 
    (hs:StepsFC P l k0 (fun _=>Ext w) (fun _=>Ext) (Bo Φs) ρ 0 l)
    (hQ:∀(ρ' :Au) w1,Ext w w1→EndF ds ρ ρ' →BY l (fun _=> []) (Bo Φs) ρ' w1 ds→Cn P l.toArray n Q r ρ' w1):Cf P n (.region id l.toArray true) Q ρ w:=
  Kl k0 (fun _=> []) (fun _=>Ext w) (fun _=>Ext) (fun _ _=>True) Φs hm ds hg hn a (by unfold CX;simp) hds hr (fun _ _ _ _ _ _ _ _ hc hr=>hc.trans hr) (fun _ i _ _ _ _ _ v w1 w' =>hst.get Φs i v w1 w') (fun _ _ _ _ _ _ _ _ _ _=>trivial) trivial (fun _ _ w1 _ _=>Ext.refl w1) (fun _ _=>(Below.refl _ _).drew) hs hlt (fun ρ' w1 _ _ _=>hQ ρ' w1)
end
open Go.RowKit
section
variable {P : Program} {K : Value → World → Prop} {ρ : Au} {w : World} {d : Option Tmp} {ty : TypeId} {pos : String} {af : Array Edge} {gd : Option (Nat × Bool)}
variable {α β : Type} {ek : α → Value} {ev : β → Value} {D : α → Prop} {b : Nat} {G : α → Option β}
variable {t Kt E : TypeId} {OK : Value → Prop}
theorem Yk.insM[DecidableEq α](L:KL P Kt OK)(hD:∀a,D a→OK (ek a))(ht:P.underlying t=some (.map Kt E)){x y z:Operand}{a:α}{c:β} 
    (hm:Ag ρ x = .map (some b)) (hy:Ag ρ y=ek a) (hz:Ag ρ z=ev c) (h:MapF ek ev D w b G) (ha:D a) (hk:∀w',MapF ek ev D w' b (updM G a (some c))→w.grownBy w' (some b)→w'.heap.size=w.heap.size→K undef w'):
    Yk P K ((execOp (Ag ρ) ⟨d, .insert t x y z,ty,pos,af,gd⟩).run P w):=by
  obtain⟨w',hrun,h1,h2,h3⟩:=h.put L hD ht ha c
  have hr:(execOp (Ag ρ) ⟨d, .insert t x y z,ty,pos,af,gd⟩).run P w = .ok .skip w' ∨(execOp (Ag ρ) ⟨d, .insert t x y z,ty,pos,af,gd⟩).run P w = .ok (.value undef) w' :=by
    unfold execOp
    simp only[hm,hy,hz,Sem.run_bind,hrun,Result.andThen_ok,Sem.run_pure]
    simp
  rcases hr with hr | hr <;> rw[hr] <;> exact hk w' h1 h2 h3
theorem Yk.build3{t:TypeId}{i0 i1 i2:Nat}{x0 x1 x2:Operand}{a b c v:Value}(h0:Ag ρ x0=a)(h1:Ag ρ x1=b)(h2:Ag ρ x2=c)(hr:∀w:World,(Instr.build t #[(i0,a),(i1,b),(i2,c)]).run P w = .ok v w)(hk:K v w):Yk P K ((execOp (Ag ρ) ⟨d, .build t #[(i0,x0),(i1,x1),(i2,x2)],ty,pos,af,gd⟩).run P w):=
  Yk.build (by simp[h0,h1,h2]) hr hk
end
theorem KC:KL Tryz.prog 5 (MapKept.IsKey (.int .u8)):=KL.ofKey (by kernel_rfl)
theorem KD:∀n:UInt8,True→MapKept.IsKey (.int .u8) (B8 n):=fun n _=>by first | exact⟨_,rfl⟩ | simp[MapKept.IsKey]
theorem Q1{a b:UInt8}(h:B8 a=B8 b):a=b:=by
  injection h with _ h
  exact UInt8.toNat_inj.1 (Int.ofNat.inj h)
open Go.RowKit
def nE(l:List AK)(i:Nat):Bool:=((!Ap (l.getD i dNmd).name)||Ai (l.getD i dNmd).id)||(decide (0<i)&&(!Op.bytesLess (l.getD (i-1) dNmd).name (l.getD i dNmd).name))
open Classical in
noncomputable def A6(l:List AK):Bool:=decide ((∀j,j<l.length→nE l j=false)∧l.length≤64)
theorem ES{l:List AK}{i:Nat}(hi:l.length≤i)(h:∀j,j<i→nE l j=false):A6 l=decide (l.length≤64):=by
  classical
  unfold A6
  by_cases h2:l.length≤64
  · rw[decide_eq_true h2,decide_eq_true ⟨fun j hj=>h j (by omega),h2⟩]
  · rw[decide_eq_false h2,decide_eq_false (fun k=>h2 k.2)]
theorem LS{l:List AK}(h:64<l.length):A6 l=false:=by
  classical
  exact decide_eq_false (fun k=>by have:=k.2;omega)
theorem Iu{l:List AK}{i:Nat}(hi:i<l.length)(h:nE l i=true):A6 l=false:=by
  classical
  exact decide_eq_false (fun k=>by have:=k.1 i hi;rw[h]at this;cases this)
theorem F1{p:Nat→Bool}{i:Nat}(h:∀j,j<i→p j=false)(h1:p i=false):∀j,j<i+1→p j=false:=fun j hj=>by
  by_cases e:j<i
  · exact h j e
  · obtain rfl:j=i:=by omega
    exact h1
def B3(k:UInt8):Bool:=(decide (k.toNat=1)||decide (k.toNat=2))||decide (k.toNat=3)
def DU(l:List AM)(i:Nat):Bool:=((!B3 (l.getD i Ad).kind)||(!BL (l.getD i Ad).note))||decide (32<(l.getD i Ad).name.length)
noncomputable def F2(r:A0):Bool:=((!A6 r.branches)||(!A6 r.tags))||decide (64<r.log.length)
noncomputable def Fv(r:A0):Bool:=(decide (r.head≠ [])&&((!Ap r.head)||(!Ai r.at_)))||(decide (r.head= [])&&Ai r.at_)
open Classical in
noncomputable def AO(r:A0):Bool:=(!F2 r)&&((!Fv r)&&decide (∀j,j<r.log.length→DU r.log j=false))
theorem Le{r:A0}(h:F2 r=true):AO r=false:=by unfold AO;rw[h];rfl
theorem Lf{r:A0}(h1:F2 r=false)(h:Fv r=true):AO r=false:=by unfold AO;rw[h1,h];rfl
theorem Iv{r:A0}{i:Nat}(h1:F2 r=false)(h2:Fv r=false)(hi:i<r.log.length)(h:DU r.log i=true):AO r=false:=by
  classical
  unfold AO;rw[h1,h2,decide_eq_false (fun k=>by have:=k i hi;rw[h]at this;cases this)];rfl
theorem Eg{r:A0}{i:Nat}(h1:F2 r=false)(h2:Fv r=false)(hi:r.log.length≤i)(h:∀j,j<i→DU r.log j=false):AO r=true:=by
  classical
  unfold AO;rw[h1,h2,decide_eq_true (fun j hj=>h j (by omega))];rfl
structure RefsAt (w : World) (x : Ah) : Prop where
  branches:RG 33 nmdC w x.2.branches x.1.branches
  tags:RG 33 nmdC w x.2.tags x.1.tags
  log:RG 67 entC w x.2.log x.1.log
theorem RefsAt.keep{w w' :World}{x:Ah}(h:RefsAt w x)(k:Ext w w'):RefsAt w' x:=⟨h.branches.keep k,h.tags.keep k,h.log.keep k⟩
structure By (r : A0) : Prop where
  branches:r.branches.length<9223372036854775807
  tags:r.tags.length<9223372036854775807
  log:r.log.length<9223372036854775807
  bn:∀u∈r.branches,u.name.length≤9223372036854775807
  tn:∀u∈r.tags,u.name.length≤9223372036854775807
  head:r.head.length≤9223372036854775807
open Go.RowKit
set_option maxRecDepth 100000
theorem NE:Tryz.prog.eqGuardType Tryz.prog.depth 24=false:=by kernel_rfl
theorem D5:Tryz.prog.underlying 33=some (.slice 60):=by kernel_rfl
theorem Iw:∀w' :World,(sizeOf 60).run Tryz.prog w' = .ok 33 w' :=fun _=>by kernel_rfl
theorem NF:∃fs,Tryz.prog.underlying 60=some (.struct fs):=Dw (by kernel_rfl)
theorem Ix:(Tryz.prog.info? 60).map (·.size)=some 33:=by kernel_rfl
theorem NG{d:Option Tmp}{ty:TypeId}{pos:String}{af:Array Edge}{gd:Option (Nat × Bool)}(σ:Operand→Value)(w:World):(execOp σ ⟨d, .alloc 60,ty,pos,af,gd⟩).run Tryz.prog w = .ok (.value (PQ w.heap.size 0)) (w.alloc (.cells (nmdC (⟨[],zid⟩:AK)).toArray 60)):=by kernel_rfl
theorem FJ:Bm Tryz.prog 60 0 0:=fun b o w=>by simp[go_sem]
theorem Jz:AI Tryz.prog 33:=fun _ _=>by kernel_rfl
theorem LT:Bm Tryz.prog 60 1 1:=fun b o w=>by simp[go_sem]
theorem GZ:AI Tryz.prog 34:=fun _ _=>by kernel_rfl
theorem LU:Bm Tryz.prog 35 0 0:=fun b o w=>by simp[go_sem]
theorem JA:AI Tryz.prog 32:=fun _ _=>by kernel_rfl
theorem LV:Bm Tryz.prog 35 1 1:=fun b o w=>by simp[go_sem]
theorem HK:Bm Tryz.prog 35 4 35:=fun b o w=>by simp[go_sem]
theorem EA:Tryz.prog.underlying 25=some (.slice 50):=by kernel_rfl
theorem FK:Bm Tryz.prog 35 2 2:=fun b o w=>by simp[go_sem]
theorem HM:Bm Tryz.prog 35 3 3:=fun b o w=>by simp[go_sem]
theorem MM:∀w' :World,(sizeOf 50).run Tryz.prog w' = .ok 67 w' :=fun _=>by kernel_rfl
theorem NH:∃fs,Tryz.prog.underlying 50=some (.struct fs):=Dw (by kernel_rfl)
theorem Iy:(Tryz.prog.info? 50).map (·.size)=some 67:=by kernel_rfl
theorem NJ{d:Option Tmp}{ty:TypeId}{pos:String}{af:Array Edge}{gd:Option (Nat × Bool)}(σ:Operand→Value)(w:World):(execOp σ ⟨d, .alloc 50,ty,pos,af,gd⟩).run Tryz.prog w = .ok (.value (PQ w.heap.size 0)) (w.alloc (.cells (entC (⟨0,[],zid,zid,[]⟩:AM)).toArray 50)):=by kernel_rfl
theorem HN:Bm Tryz.prog 50 0 0:=fun b o w=>by simp[go_sem]
theorem LW:Bm Tryz.prog 48 0 0:=fun b o w=>by simp[go_sem]
theorem NK:AI Tryz.prog 35:=fun _ _=>by kernel_rfl
theorem LX:Bm Tryz.prog 50 1 66:=fun b o w=>by simp[go_sem]
theorem NL:AI Tryz.prog 36:=fun _ _=>by kernel_rfl
theorem LY:Bm Tryz.prog 48 1 1:=fun b o w=>by simp[go_sem]
set_option maxHeartbeats 1600000
theorem B9(w:World)(u:BS):
  Calls Tryz.prog 34 #[AB u.1] w fun e w' =>e = .returned (.bool (Ai u))∧Ext w w' :=by
 refine As (args:= [AB u.1]) Tryz.func34 rfl 6 rfl (Nat.le_of_ble_eq_true rfl) ?_
 intro c hb
 have f:c 0=(AB u.1:Value):=hb.get 0
 clear hb
 have hE:=Ext.refl w
 refine sk fun l g=>(wt (oS rfl (Yk.box (cs:=(Lib.byteCells u.1:List Value).toArray) f fun a h m b i n=> ?_)))
 have hE:=hE.trans i
 have j:=b;clear b
 have o:a<h.heap.size:=by omega
 refine oA rfl (oZ (tN (g _ _ (sk fun p k=>(wt (oS rfl (Yk.loadAll (vr (PQ a 0) rfl) j P8 rfl (by exact At u.2) (oS rfl (Yk.run (v:=AB (List.replicate 32 0)) (by kernel_rfl) (oS rfl (Yk.eqArr (l1:=u.1) (l2:=(List.replicate 32 0)) P8 u5 MH NE (vr (AB u.1) rfl) (vr (AB (List.replicate 32 0)) rfl) (u.2) (List.length_replicate) (oA rfl (oZ (tN (k _ _ (Am (Aj (fn:=Tryz.f34) _ rfl [.bool (decide (u.1=(List.replicate 32 0)))] (.bool (decide (u.1=(List.replicate 32 0)))) rfl ⟨rfl,trivial⟩ ?_)))))))))))))))))
 exact⟨rfl,hE⟩

theorem JB(w:World)(k:UInt8):
  Calls Tryz.prog 35 #[B8 k] w fun e w' =>e = .returned (.bool (B3 k))∧Ext w w' :=by
 refine As (args:= [B8 (k)]) Tryz.func35 rfl 13 rfl (Nat.le_of_ble_eq_true rfl) ?_
 intro f hb
 have c:f 0=(B8 (k):Value):=hb.get 0
 clear hb
 have hE:=Ext.refl w
 refine sk fun i g=>(wt (oA rfl (oZ (tN (g _ _ (sk fun j h=>(wt (oM rfl (oS rfl (Yk.eqI (a:=((k).toNat:Nat)) (b:=(1:Nat)) c rfl (A2 _ _ _ _) (oM rfl (Ac (B8 (k)) rfl rfl (gF (vr (.bool (decide (((k).toNat:Nat)=(1)))) rfl)) (fun hG3=>Yk.move c ⟨rfl,rfl⟩) (Ac (.bool (decide (((k).toNat:Nat)=(2)))) rfl rfl (gF (vr (.bool (decide (((k).toNat:Nat)=(1)))) rfl)) (fun hG4=>Yk.eqI (a:=(((k).toNat:Nat):Int)) (b:=((2:Nat):Int)) (Ak (vr (cond (!(decide (((k).toNat:Nat)=(1)))) (B8 (k)) undef) rfl) hG4) (vr (B8 (2)) rfl) (A2 _ .u8 ((k).toNat) (2)) ⟨rfl,rfl⟩) (oS rfl (Yk.pickOrN (vr (.bool (decide (((k).toNat:Nat)=(1)))) rfl) (vr (.bool (true)) rfl) (fun hA=>(Ak (vr (cond (!(decide (((k).toNat:Nat)=(1)))) (.bool (decide (((k).toNat:Nat)=(2)))) undef) rfl) (Bb hA))) fun bb5 hbb6=>(oM rfl (Ac (B8 (k)) rfl rfl (gF (vr (.bool (bb5)) rfl)) (fun hG7=>Yk.move c ⟨rfl,rfl⟩) (Ac (.bool (decide (((k).toNat:Nat)=(3)))) rfl rfl (gF (vr (.bool (bb5)) rfl)) (fun hG8=>Yk.eqI (a:=(((k).toNat:Nat):Int)) (b:=((3:Nat):Int)) (Ak (vr (cond (!bb5) (B8 (k)) undef) rfl) hG8) (vr (B8 (3)) rfl) (A2 _ .u8 ((k).toNat) (3)) ⟨rfl,rfl⟩) ?_))))))))))))))))))
 refine oS rfl (Yk.pickOrN (vr (.bool (bb5)) rfl) (vr (.bool (true)) rfl) (fun hA=>(Ak (vr (cond (!bb5) (.bool (decide (((k).toNat:Nat)=(3)))) undef) rfl) (Bb hA))) fun bb9 hbb10=>(oA rfl (oZ (tN (h _ _ (Am (Aj (fn:=Tryz.f35) _ rfl [.bool (bb9)] (.bool (bb9)) rfl ⟨rfl,trivial⟩ ?_)))))))
 subst hbb6 hbb10
 exact⟨rfl,hE⟩

theorem JC(w:World)(v:Value)(l:List AK)(hr:RG 33 nmdC w v l)(hll:l.length<9223372036854775807)(hln:∀u∈l,u.name.length≤9223372036854775807):
  Calls Tryz.prog 32 #[v] w fun e w' =>e = .returned (.bool (A6 l))∧Ext w w' :=by
 refine As (args:= [v]) Tryz.func32 rfl 40 rfl (Nat.le_of_ble_eq_true rfl) ?_
 intro ai hb
 have f:ai 0=(v:Value):=hb.get 0
 clear hb
 have hE:=Ext.refl w
 refine sk fun K1 aj=>(wt (oA rfl (oZ (tN (aj _ _ (sk fun K2 ak=>(sk fun K3 al=>(wt (oM rfl (oS rfl (Yk.lenRG D5 (RG.of hr f) (oM rfl (A3 [(0,v),(2, .bool (false)),(5,v),(6,NI l.length),(7,NI 0)] ⟨f,rfl,f,rfl,rfl,trivial⟩ fun bz ⟨f,T2,o,p,c,_⟩=>(tN (al _ _ (Av (A4 (fun(ρ:Au) (wz:World)=>∃i:Nat,ρ 0=(v:Value)∧ρ 5=(v:Value)∧ρ 6=(NI l.length:Value)∧ρ 7=(NI i:Value)∧RG 33 nmdC wz v l∧Ext w wz∧(i≤l.length)∧(∀j,j<i→nE l j=false)∧True) (fun ρ _=>l.length-(intOf (ρ 7)).toNat) ⟨0,f,o,p,c,hr,hE,Nat.zero_le _,fun j hj=>absurd hj (Nat.not_lt_zero _),trivial⟩ ?_)))))))))))))))))
 clear hr hE
 rintro am w6 ⟨i,f,o,p,c,hr,hE,hi,hn,-⟩
 have q7:=c
 refine sk fun K7 ao=>(wt (oS rfl (Yk.eqI (a:=(i:Nat)) (b:=(l.length:Nat)) c p (AX _ _ _ _) (oZ (tN (ao _ _ (sk fun K8 ap=> ?_)))))))
 refine AL ((i)<(l.length)) (vr (.bool (decide ((i)<(l.length)))) rfl) (fun z=> ?_) (fun z=> ?_)
 ·have hlt:i<l.length:=z
  have hnm:=hln _ (CB dNmd hlt)
  refine Aq (tN (ap _ _ (sk fun K9 aq=>(Av (sk fun b4 ar=>(wt (oM rfl ?_)))))))
  have b5:(nmdC (l.getD (i) dNmd)).length=33:=(RG.elem hr dNmd (by omega))
  refine oS rfl (Yk.atRG D5 Iw (by decide) dNmd (RG.of hr o) c (by omega) fun au aa=>(oS rfl (Yk.loadPR (PR.of aa (vr au rfl)) (NF).choose_spec rfl (by rw[Bq];exact Ix) (oS rfl (Yk.alloc (cs:=(nmdC (⟨[],zid⟩:AK)).toArray) NG fun g av b6 ab ac b7=> ?_)))))
  have q:=Ext.refl w6
  have aw:=hE.size
  have hE:=hE.trans ac
  have q:=q.trans ac
  have r:=ab;clear ab
  have b8:g<av.heap.size:=by omega
  refine oA rfl (oS rfl (Yk.storeAll (vr (PQ g 0) rfl) (vr (.agg (nmdC (l.getD (i) dNmd)).toArray) rfl) r (by simp only[List.size_toArray,Bq]) (AC (Bq _) Ix) (CL (x:=(l.getD (i) dNmd))) fun ax ad ae b9=> ?_))
  have hE:=Af hE ae (Nat.le_trans aw (by omega))
  have q:=Af q ae (Nat.le_trans (Nat.le_refl _) (by omega))
  clear r
  have r:ax.heap[g]? =some (.cells (nmdC (l.getD (i) dNmd)).toArray 60 (0,0)):=ad;clear ad
  have ca:=bl r
  refine oZ ?_
  clear aa
  refine tN (ar _ _ (sk fun cb ay=> ?_))
  refine Bw [Is (PQ g 0),Is (St (((l.getD (i) dNmd)).name)),Is (.bool (Ap (((l.getD (i) dNmd)).name))),Is (.bool (!(Ap (((l.getD (i) dNmd)).name)))),Is (.bool (!(Ap (((l.getD (i) dNmd)).name)))),Is (cond (!(!(Ap (((l.getD (i) dNmd)).name)))) (PQ g 1) undef),Is (cond (!(!(Ap (((l.getD (i) dNmd)).name)))) (AB (((l.getD (i) dNmd)).id.1)) undef),Is (cond (!(!(Ap (((l.getD (i) dNmd)).name)))) (.bool (Ai (((l.getD (i) dNmd)).id))) undef),Is (.bool ((!(Ap (((l.getD (i) dNmd)).name)))||(Ai (((l.getD (i) dNmd)).id)))),Is (.bool ((!(Ap (((l.getD (i) dNmd)).name)))||(Ai (((l.getD (i) dNmd)).id)))),Is (cond (!((!(Ap (((l.getD (i) dNmd)).name)))||(Ai (((l.getD (i) dNmd)).id)))) (NI i) undef),Is (cond (!((!(Ap (((l.getD (i) dNmd)).name)))||(Ai (((l.getD (i) dNmd)).id)))) (.bool (decide ((0)<(i)))) undef),Is (cond (!((!(Ap (((l.getD (i) dNmd)).name)))||(Ai (((l.getD (i) dNmd)).id)))) (.bool (decide ((0)<(i)))) undef),Is (cond ((!((!(Ap (((l.getD (i) dNmd)).name)))||(Ai (((l.getD (i) dNmd)).id))))&&(decide ((0)<(i)))) (v) undef),Is (cond ((!((!(Ap (((l.getD (i) dNmd)).name)))||(Ai (((l.getD (i) dNmd)).id))))&&(decide ((0)<(i)))) (NI i) undef),Is (cond ((!((!(Ap (((l.getD (i) dNmd)).name)))||(Ai (((l.getD (i) dNmd)).id))))&&(decide ((0)<(i)))) (NI ((i)-(1))) undef),fun x w' =>((!((!(Ap (((l.getD (i) dNmd)).name)))||(Ai (((l.getD (i) dNmd)).id))))&&(decide ((0)<(i))))=true→(fun x w' =>PR (nmdC (l.getD ((i)-(1)) dNmd)) x w') x w',fun x w' =>((!((!(Ap (((l.getD (i) dNmd)).name)))||(Ai (((l.getD (i) dNmd)).id))))&&(decide ((0)<(i))))=true→(PCell (St ((l.getD ((i)-(1)) dNmd).name))) x w',Is (cond ((!((!(Ap (((l.getD (i) dNmd)).name)))||(Ai (((l.getD (i) dNmd)).id))))&&(decide ((0)<(i)))) (St ((l.getD ((i)-(1)) dNmd).name)) undef),Is (cond ((!((!(Ap (((l.getD (i) dNmd)).name)))||(Ai (((l.getD (i) dNmd)).id))))&&(decide ((0)<(i)))) (PQ g 0) undef),Is (cond ((!((!(Ap (((l.getD (i) dNmd)).name)))||(Ai (((l.getD (i) dNmd)).id))))&&(decide ((0)<(i)))) (St (((l.getD (i) dNmd)).name)) undef),Is (cond ((!((!(Ap (((l.getD (i) dNmd)).name)))||(Ai (((l.getD (i) dNmd)).id))))&&(decide ((0)<(i)))) (.bool (!(Op.bytesLess ((l.getD ((i)-(1)) dNmd).name) (((l.getD (i) dNmd)).name)))) undef),Is (cond (!((!(Ap (((l.getD (i) dNmd)).name)))||(Ai (((l.getD (i) dNmd)).id)))) (.bool ((decide ((0)<(i)))&&(!(Op.bytesLess ((l.getD ((i)-(1)) dNmd).name) (((l.getD (i) dNmd)).name))))) undef),Is (.bool (((!(Ap (((l.getD (i) dNmd)).name)))||(Ai (((l.getD (i) dNmd)).id)))||((decide ((0)<(i)))&&(!(Op.bytesLess ((l.getD ((i)-(1)) dNmd).name) (((l.getD (i) dNmd)).name))))))] (by kernel_rfl) [12,13,14,15,16,17,18,19,20,21,22,23,24,25,26,27,28,29,30,31,32,33,34,35] (by kernel_rfl) (by kernel_rfl) (EJ (CG ⟨(Stab.may ((fun _ _ _ h k=>PR.keep h k))),(Stab.may (Stab.pcell _)),(QW trivial)⟩)) ?az ?hQ1004
  case az=>
   refine⟨?_,?_,?_,?_,?_,?_,?_,?_,?_,?_,?_,?_,?_,?_,?_,?_,?_,?_,?_,?_,?_,?_,?_,?_,trivial⟩
   ·refine Aa rfl fun σ w1 hC h=> ?_
    have s:σ 4=PQ g 0:=(Ae (h 4 (by decide))).trans rfl
    exact Yk.fieldAt FJ s ⟨Ext.refl _,rfl⟩
   ·refine Aa rfl fun σ w1 hC h=> ?_
    have a0:=Ae (h 12 (by decide))
    exact Yk.cell1 DT rfl a0 (Al (eb hC r) (show(nmdC (l.getD (i) dNmd))[0]? =some (St (((l.getD (i) dNmd)).name):Value)from Ed (l.getD (i) dNmd))) ⟨Ext.refl _,rfl⟩
   ·refine Aa rfl fun σ w1 hC h=> ?_
    have a1:=Ae (h 13 (by decide))
    refine Yk.callA1 Jz a1 ((Ia _ (((l.getD (i) dNmd)).name) (by have:=hnm;omega)).mono ?_)
    rintro e w2 ⟨rfl,hx⟩
    exact⟨_,rfl,hx,rfl⟩
   ·refine Aa rfl fun σ w1 hC h=> ?_
    have a3:=Ae (h 14 (by decide))
    exact Yk.notB a3 ⟨Ext.refl _,rfl⟩
   ·refine Aa rfl fun σ w1 hC h=> ?_
    have a4:=Ae (h 15 (by decide))
    exact Yk.move a4 ⟨Ext.refl _,rfl⟩
   ·refine AY 4 false 16 (G:= !(!(Ap (((l.getD (i) dNmd)).name)))) rfl rfl (fun x _ (h:x = .bool (!(Ap (((l.getD (i) dNmd)).name))))=>gF h) (fun hu_ _=>Bl hu_) fun hG σ w1 hC h=> ?_
    have s:σ 4=PQ g 0:=(Ae (h 4 (by decide))).trans rfl
    exact Yk.fieldAt LT s ⟨Ext.refl _,Bk hG⟩
   ·refine AY 4 false 16 (G:= !(!(Ap (((l.getD (i) dNmd)).name)))) rfl rfl (fun x _ (h:x = .bool (!(Ap (((l.getD (i) dNmd)).name))))=>gF h) (fun hu_ _=>Bl hu_) fun hG σ w1 hC h=> ?_
    have a5:=Ae (h 17 (by decide))
    exact Yk.loadPR (PR.blk (eb hC r) (FX (l.getD (i) dNmd)) (FY (l.getD (i) dNmd)) (Ak a5 hG)) P8 rfl (At ((l.getD (i) dNmd)).id.2) ⟨Ext.refl _,Bk hG⟩
   ·refine AY 4 false 16 (G:= !(!(Ap (((l.getD (i) dNmd)).name)))) rfl rfl (fun x _ (h:x = .bool (!(Ap (((l.getD (i) dNmd)).name))))=>gF h) (fun hu_ _=>Bl hu_) fun hG σ w1 hC h=> ?_
    have a6:=Ae (h 18 (by decide))
    refine Yk.callA1 GZ (Ak a6 hG) ((B9 _ (((l.getD (i) dNmd)).id)).mono ?_)
    rintro e w2 ⟨rfl,hx⟩
    exact⟨_,rfl,hx,Bk hG⟩
   ·refine Aa rfl fun σ w1 hC h=> ?_
    have a7:=Ae (h 16 (by decide))
    have a8:=Ae (h 19 (by decide))
    exact Yk.pickOr a7 (vr (.bool (true)) rfl) (fun hA=>(Ak a8 (Bb hA))) ⟨Ext.refl _,rfl⟩
   ·refine Aa rfl fun σ w1 hC h=> ?_
    have a9:=Ae (h 20 (by decide))
    exact Yk.move a9 ⟨Ext.refl _,rfl⟩
   ·refine AY 9 false 21 (G:= !((!(Ap (((l.getD (i) dNmd)).name)))||(Ai (((l.getD (i) dNmd)).id)))) rfl rfl (fun x _ (h:x = .bool ((!(Ap (((l.getD (i) dNmd)).name)))||(Ai (((l.getD (i) dNmd)).id))))=>gF h) (fun hu_ _=>Bl hu_) fun hG σ w1 hC h=> ?_
    have t:=(Ae (h 3 (by decide))).trans c
    exact Yk.move t ⟨Ext.refl _,Bk hG⟩
   ·refine AY 9 false 21 (G:= !((!(Ap (((l.getD (i) dNmd)).name)))||(Ai (((l.getD (i) dNmd)).id)))) rfl rfl (fun x _ (h:x = .bool ((!(Ap (((l.getD (i) dNmd)).name)))||(Ai (((l.getD (i) dNmd)).id))))=>gF h) (fun hu_ _=>Bl hu_) fun hG σ w1 hC h=> ?_
    have ba:=Ae (h 22 (by decide))
    exact Yk.eqI (a:=((i:Nat):Int)) (b:=((0:Nat):Int)) (Ak ba hG) (vr (NI 0) rfl) (BA _ .i64 (i) (0)) ⟨Ext.refl _,Bk hG⟩
   ·refine AY 9 false 21 (G:= !((!(Ap (((l.getD (i) dNmd)).name)))||(Ai (((l.getD (i) dNmd)).id)))) rfl rfl (fun x _ (h:x = .bool ((!(Ap (((l.getD (i) dNmd)).name)))||(Ai (((l.getD (i) dNmd)).id))))=>gF h) (fun hu_ _=>Bl hu_) fun hG σ w1 hC h=> ?_
    have bb:=Ae (h 23 (by decide))
    exact Yk.move (Ak bb hG) ⟨Ext.refl _,Bk hG⟩
   ·refine AY 12 true 24 (G:=(!((!(Ap (((l.getD (i) dNmd)).name)))||(Ai (((l.getD (i) dNmd)).id))))&&(decide ((0)<(i)))) rfl rfl (fun x _ (h:x=cond (!((!(Ap (((l.getD (i) dNmd)).name)))||(Ai (((l.getD (i) dNmd)).id)))) (.bool (decide ((0)<(i)))) undef)=>Cc h) (fun hu_ _=>Bl hu_) fun hG σ w1 hC h=> ?_
    have e0:=(Ae (h 0 (by decide))).trans f
    exact Yk.move e0 ⟨Ext.refl _,Bk hG⟩
   ·refine AY 12 true 24 (G:=(!((!(Ap (((l.getD (i) dNmd)).name)))||(Ai (((l.getD (i) dNmd)).id))))&&(decide ((0)<(i)))) rfl rfl (fun x _ (h:x=cond (!((!(Ap (((l.getD (i) dNmd)).name)))||(Ai (((l.getD (i) dNmd)).id)))) (.bool (decide ((0)<(i)))) undef)=>Cc h) (fun hu_ _=>Bl hu_) fun hG σ w1 hC h=> ?_
    have t:=(Ae (h 3 (by decide))).trans c
    exact Yk.move t ⟨Ext.refl _,Bk hG⟩
   ·refine AY 12 true 24 (G:=(!((!(Ap (((l.getD (i) dNmd)).name)))||(Ai (((l.getD (i) dNmd)).id))))&&(decide ((0)<(i)))) rfl rfl (fun x _ (h:x=cond (!((!(Ap (((l.getD (i) dNmd)).name)))||(Ai (((l.getD (i) dNmd)).id)))) (.bool (decide ((0)<(i)))) undef)=>Cc h) (fun hu_ _=>Bl hu_) fun hG σ w1 hC h=> ?_
    have bd:=Ae (h 26 (by decide))
    exact Yk.bin (xv:=NI i) (yv:=NI 1) (Ak bd hG) (vr (NI 1) rfl) rfl (B5 _ (i) (1) (by simp only[gA,gB,gC,gD,gE]at hG;omega) (by simp only[gA,gB,gC,gD,gE]at hG;omega)) ⟨Ext.refl _,Bk hG⟩
   ·refine AY 12 true 24 (G:=(!((!(Ap (((l.getD (i) dNmd)).name)))||(Ai (((l.getD (i) dNmd)).id))))&&(decide ((0)<(i)))) rfl rfl (fun x _ (h:x=cond (!((!(Ap (((l.getD (i) dNmd)).name)))||(Ai (((l.getD (i) dNmd)).id)))) (.bool (decide ((0)<(i)))) undef)=>Cc h) (fun hu_ _=>Jt hu_) fun hG σ w1 hC h=> ?_
    have be:=Ae (h 25 (by decide))
    have bf:=Ae (h 27 (by decide))
    exact Yk.atRG D5 Iw (by decide) dNmd (RG.of (hr.keep (q.trans hC)) (Ak be hG)) (Ak bf hG) (by simp only[gA,gB,gC,gD,gE]at hG;omega) fun v h=>⟨Ext.refl _,fun _=>h⟩
   ·refine AY 12 true 24 (G:=(!((!(Ap (((l.getD (i) dNmd)).name)))||(Ai (((l.getD (i) dNmd)).id))))&&(decide ((0)<(i)))) rfl rfl (fun x _ (h:x=cond (!((!(Ap (((l.getD (i) dNmd)).name)))||(Ai (((l.getD (i) dNmd)).id)))) (.bool (decide ((0)<(i)))) undef)=>Cc h) (fun hu_ _=>Jt hu_) fun hG σ w1 hC h=> ?_
    have bg:(fun x w' =>((!((!(Ap (((l.getD (i) dNmd)).name)))||(Ai (((l.getD (i) dNmd)).id))))&&(decide ((0)<(i))))=true→(fun x w' =>PR (nmdC (l.getD ((i)-(1)) dNmd)) x w') x w') (σ 28) w1:=h 28 (by decide)
    exact Yk.fieldPR (n:=1) FJ (bg hG) fun v h=>⟨Ext.refl _,fun _=>PR.pcell (by rw[DJ]at h;exact h)⟩
   ·refine AY 12 true 24 (G:=(!((!(Ap (((l.getD (i) dNmd)).name)))||(Ai (((l.getD (i) dNmd)).id))))&&(decide ((0)<(i)))) rfl rfl (fun x _ (h:x=cond (!((!(Ap (((l.getD (i) dNmd)).name)))||(Ai (((l.getD (i) dNmd)).id)))) (.bool (decide ((0)<(i)))) undef)=>Cc h) (fun hu_ _=>Bl hu_) fun hG σ w1 hC h=> ?_
    have bh:(fun x w' =>((!((!(Ap (((l.getD (i) dNmd)).name)))||(Ai (((l.getD (i) dNmd)).id))))&&(decide ((0)<(i))))=true→(PCell (St ((l.getD ((i)-(1)) dNmd).name))) x w') (σ 29) w1:=h 29 (by decide)
    exact Yk.loadC DT rfl (bh hG) ⟨Ext.refl _,Bk hG⟩
   ·refine AY 12 true 24 (G:=(!((!(Ap (((l.getD (i) dNmd)).name)))||(Ai (((l.getD (i) dNmd)).id))))&&(decide ((0)<(i)))) rfl rfl (fun x _ (h:x=cond (!((!(Ap (((l.getD (i) dNmd)).name)))||(Ai (((l.getD (i) dNmd)).id)))) (.bool (decide ((0)<(i)))) undef)=>Cc h) (fun hu_ _=>Bl hu_) fun hG σ w1 hC h=> ?_
    have s:σ 4=PQ g 0:=(Ae (h 4 (by decide))).trans rfl
    exact Yk.fieldAt FJ s ⟨Ext.refl _,Bk hG⟩
   ·refine AY 12 true 24 (G:=(!((!(Ap (((l.getD (i) dNmd)).name)))||(Ai (((l.getD (i) dNmd)).id))))&&(decide ((0)<(i)))) rfl rfl (fun x _ (h:x=cond (!((!(Ap (((l.getD (i) dNmd)).name)))||(Ai (((l.getD (i) dNmd)).id)))) (.bool (decide ((0)<(i)))) undef)=>Cc h) (fun hu_ _=>Bl hu_) fun hG σ w1 hC h=> ?_
    have bi:=Ae (h 31 (by decide))
    exact Yk.cell1 DT rfl (Ak bi hG) (Al (eb hC r) (show(nmdC (l.getD (i) dNmd))[0]? =some (St (((l.getD (i) dNmd)).name):Value)from Ed (l.getD (i) dNmd))) ⟨Ext.refl _,Bk hG⟩
   ·refine AY 12 true 24 (G:=(!((!(Ap (((l.getD (i) dNmd)).name)))||(Ai (((l.getD (i) dNmd)).id))))&&(decide ((0)<(i)))) rfl rfl (fun x _ (h:x=cond (!((!(Ap (((l.getD (i) dNmd)).name)))||(Ai (((l.getD (i) dNmd)).id)))) (.bool (decide ((0)<(i)))) undef)=>Cc h) (fun hu_ _=>Bl hu_) fun hG σ w1 hC h=> ?_
    have bj:=Ae (h 30 (by decide))
    have bk:=Ae (h 32 (by decide))
    exact Yk.ltSt (l:=(l.getD ((i)-(1)) dNmd).name) (m:=((l.getD (i) dNmd)).name) (.inr rfl) (Ak bj hG) (Ak bk hG) (!(Op.bytesLess ((l.getD ((i)-(1)) dNmd).name) (((l.getD (i) dNmd)).name))) rfl ⟨Ext.refl _,Bk hG⟩
   ·refine AY 9 false 21 (G:= !((!(Ap (((l.getD (i) dNmd)).name)))||(Ai (((l.getD (i) dNmd)).id)))) rfl rfl (fun x _ (h:x = .bool ((!(Ap (((l.getD (i) dNmd)).name)))||(Ai (((l.getD (i) dNmd)).id))))=>gF h) (fun hu_ _=>Bl hu_) fun hG σ w1 hC h=> ?_
    have bm:=Ae (h 24 (by decide))
    have bn:=Ae (h 33 (by decide))
    exact Yk.pickAnd (Ak bm hG) (fun hA=>(Ak bn (Du hG hA))) (vr (.bool (false)) rfl) ⟨Ext.refl _,Bk hG⟩
   ·refine Aa rfl fun σ w1 hC h=> ?_
    have bo:=Ae (h 21 (by decide))
    have bp:=Ae (h 34 (by decide))
    exact Yk.pickOr bo (vr (.bool (true)) rfl) (fun hA=>(Ak bp (Bb hA))) ⟨Ext.refl _,rfl⟩
  intro bq cc af he hf
  obtain⟨-,-,-,-,-,-,-,-,-,-,-,-,-,-,-,-,-,-,-,-,-,-,-,k35,-⟩:=hf
  obtain⟨f,T3,T4,o,p,c,-⟩:=he.hold [(0,_),(3,_),(4,PQ g 0),(5,_),(6,_),(7,_)] ⟨f,c,rfl,o,p,c,trivial⟩ rfl
  clear he
  have hE:=hE.trans af
  have q:=q.trans af
  have br:bq 35 = .bool (((!(Ap (((l.getD (i) dNmd)).name)))||(Ai (((l.getD (i) dNmd)).id)))||((decide ((0)<(i)))&&(!(Op.bytesLess ((l.getD ((i)-(1)) dNmd).name) (((l.getD (i) dNmd)).name))))):=k35
  clear k35
  refine tN (ay _ _ ?_)
  refine AW (((!(Ap (((l.getD (i) dNmd)).name)))||(Ai (((l.getD (i) dNmd)).id)))||((decide ((0)<(i)))&&(!(Op.bytesLess ((l.getD ((i)-(1)) dNmd).name) (((l.getD (i) dNmd)).name))))) br (fun y=> ?_) (fun y=> ?_)
  ·have hbad:nE l i=true:=y
   refine sk fun cd bs=>(wt (oA rfl (oZ (tN (bs _ _ (Am (AE (An (An (AE (An (Aj (fn:=Tryz.f32) _ rfl [.bool (false)] (.bool (false)) rfl ⟨rfl,trivial⟩ ?_))))))))))))
   exact⟨by rw[Iu hlt hbad],hE⟩
  have hbad:nE l i=false:=y
  refine Aq (bN (tN (aq _ _ (wt (oS rfl (Yk.bin (xv:=NI i) (yv:=NI 1) c rfl rfl (AA _ _ _ (by omega)) (oM rfl (A3 [(0,v),(3,NI i),(4,PQ g 0),(5,v),(6,NI l.length),(7,NI ((i)+(1)))] ⟨f,T3,T4,o,p,rfl,trivial⟩ fun bt ⟨f,T3,T4,o,p,c,_⟩=>(tN (And.intro ⟨i+1,f,o,p,c,(hr.keep q),hE,by omega,F1 hn hbad,trivial⟩ ?_))))))))))
  show l.length-(intOf (bt 7)).toNat<l.length-(intOf (am 7)).toNat
  rw[c,q7]
  simp only[intOf,Int.toNat_natCast];omega
 refine AP (Ar (Ar (Az (tN (ak _ _ (sk fun ce bu=>(wt (oM rfl (oS rfl (Yk.lenRG D5 (RG.of hr f) (oS rfl (Yk.eqI (a:=(l.length:Nat)) (b:=(64:Nat)) rfl rfl (Cs _ _ _ _) (oA rfl (oZ (tN (bu _ _ (Am (Aj (fn:=Tryz.f32) _ rfl [.bool (decide ((l.length)≤(64)))] (.bool (decide ((l.length)≤(64)))) rfl ⟨rfl,trivial⟩ ?_))))))))))))))))))
 exact⟨by rw[ES (show l.length≤i by omega) hn],hE⟩

theorem ET(w:World)(x:Ah)(hm:RefsAt w x)(hL:By x.1):
  Calls Tryz.prog 13 #[.agg (refsC x).toArray] w fun e w' =>e = .returned (.bool (AO x.1))∧Ext w w' :=by
 have hmt:=hm.branches
 have hmg:=hm.tags
 have hml:=hm.log
 refine As (args:= [.agg (refsC x).toArray]) Tryz.func13 rfl 72 rfl (Nat.le_of_ble_eq_true rfl) ?_
 intro am hb
 have k:am 0=(.agg (refsC x).toArray:Value):=hb.get 0
 clear hb
 have hE:=Ext.refl w
 refine sk fun K1 an=>(wt (oS rfl (Yk.box (cs:=(refsC x:List Value).toArray) k fun f w3 bg z ap bh=> ?_)))
 have hE:=hE.trans ap
 have c:=z;clear z
 have bi:f<w3.heap.size:=by omega
 refine oA rfl (oZ (tN (an _ _ (sk fun bj aq=>(sk fun bk ar=>(wt (oS rfl (Yk.fieldAt LU (vr (PQ f 0) rfl) (oS rfl (Yk.cell1 D5 rfl (vr (PQ f 0) rfl) (Al c (show(refsC x)[0]? =some (x.2.branches:Value)from BN x)) (oS rfl (Yk.callA1 JA (vr x.2.branches rfl) ((JC _ _ x.1.branches (hmt.keep hE) hL.branches hL.bn).mono ?_)))))))))))))
 rintro e bm ⟨rfl,aa⟩
 refine⟨_,rfl,?_⟩
 have hE:=hE.trans aa
 have c:=eb aa c
 refine oS rfl (Yk.notB (vr (.bool (A6 x.1.branches)) rfl) (oM rfl (Ac (PQ f 1) rfl rfl (gF (vr (.bool (!(A6 x.1.branches))) rfl)) (fun hG14=>Yk.fieldAt LV (vr (PQ f 0) rfl) ⟨rfl,rfl⟩) (Ac (x.2.tags) rfl rfl (gF (vr (.bool (!(A6 x.1.branches))) rfl)) (fun hG15=>Yk.cell1 D5 rfl (Ak (vr (cond (!(!(A6 x.1.branches))) (PQ f 1) undef) rfl) hG15) (Al c (show(refsC x)[1]? =some (x.2.tags:Value)from B6 x)) ⟨rfl,rfl⟩) (BF (.bool (A6 x.1.tags)) rfl rfl (gF (vr (.bool (!(A6 x.1.branches))) rfl)) (fun hG16=>Yk.callA1 JA (Ak (vr (cond (!(!(A6 x.1.branches))) (x.2.tags) undef) rfl) hG16) ((JC _ _ x.1.tags (hmg.keep hE) hL.tags hL.tn).mono (by rintro e r ⟨rfl,hx⟩;exact⟨_,rfl,rfl,hx⟩))) fun bo ab=> ?_)))))
 have hE:=hE.trans ab
 have c:=eb ab c
 refine Ac (.bool (!(A6 x.1.tags))) rfl rfl (gF (vr (.bool (!(A6 x.1.branches))) rfl)) (fun hG20=>Yk.notB (Ak (vr (cond (!(!(A6 x.1.branches))) (.bool (A6 x.1.tags)) undef) rfl) hG20) ⟨rfl,rfl⟩) (oS rfl (Yk.pickOrN (vr (.bool (!(A6 x.1.branches))) rfl) (vr (.bool (true)) rfl) (fun hA=>(Ak (vr (cond (!(!(A6 x.1.branches))) (.bool (!(A6 x.1.tags))) undef) rfl) (Bb hA))) fun bb21 hbb22=>(oM rfl (Ac (PQ f 35) rfl rfl (gF (vr (.bool (bb21)) rfl)) (fun hG23=>Yk.fieldAt HK (vr (PQ f 0) rfl) ⟨rfl,rfl⟩) (Ac (x.2.log) rfl rfl (gF (vr (.bool (bb21)) rfl)) (fun hG24=>Yk.cell1 EA rfl (Ak (vr (cond (!bb21) (PQ f 35) undef) rfl) hG24) (Al c (show(refsC x)[35]? =some (x.2.log:Value)from Bn x)) ⟨rfl,rfl⟩) (Ac (NI ((x.1.log).length)) rfl rfl (gF (vr (.bool (bb21)) rfl)) (fun hG25=>Yk.lenRG EA (RG.of (hml.keep hE) (Ak (vr (cond (!bb21) (x.2.log) undef) rfl) hG25)) ⟨rfl,rfl⟩) (Ac (.bool (decide ((64)<((x.1.log).length)))) rfl rfl (gF (vr (.bool (bb21)) rfl)) (fun hG26=>Yk.eqI (a:=(((x.1.log).length:Nat):Int)) (b:=((64:Nat):Int)) (Ak (vr (cond (!bb21) (NI ((x.1.log).length)) undef) rfl) hG26) (vr (NI 64) rfl) (BA _ .i64 ((x.1.log).length) (64)) ⟨rfl,rfl⟩) (oS rfl (Yk.pickOrN (vr (.bool (bb21)) rfl) (vr (.bool (true)) rfl) (fun hA=>(Ak (vr (cond (!bb21) (.bool (decide ((64)<((x.1.log).length)))) undef) rfl) (Bb hA))) fun bb27 hbb28=>(oZ (tN (ar _ _ ?_))))))))))))
 refine AW (bb27) (vr (.bool (bb27)) rfl) (fun s=> ?_) (fun s=> ?_)
 ·subst hbb22 hbb28
  have h1c:F2 x.1=true:=s
  refine sk fun bp au=>(wt (oA rfl (oZ (tN (au _ _ (Am (An (Aj (fn:=Tryz.f13) _ rfl [.bool (false)] (.bool (false)) rfl ⟨rfl,trivial⟩ ?_))))))))
  exact⟨by rw[Le h1c],hE⟩
 subst hbb22 hbb28
 have h1c:F2 x.1=false:=s
 refine Aq (tN (aq _ _ (sk fun bq av=>(sk fun br aw=>(wt (oS rfl (Yk.fieldAt FK (vr (PQ f 0) rfl) (oS rfl (Yk.cell1 DT rfl (vr (PQ f 2) rfl) (Al c (show(refsC x)[2]? =some (St (x.1.head):Value)from Cq x)) (oS rfl (Yk.eqSt (l:=x.1.head) (m:=([]:List UInt8)) (.inr rfl) (vr (St (x.1.head)) rfl) (vr (St (([]:List UInt8))) rfl) (decide ((x.1.head:List UInt8)≠(([]:List UInt8):List UInt8))) rfl (oM rfl (Ac (PQ f 2) rfl rfl (gT (vr (.bool (decide ((x.1.head:List UInt8)≠(([]:List UInt8):List UInt8)))) rfl)) (fun hG32=>Yk.fieldAt FK (vr (PQ f 0) rfl) ⟨rfl,rfl⟩) (Ac (St (x.1.head)) rfl rfl (gT (vr (.bool (decide ((x.1.head:List UInt8)≠(([]:List UInt8):List UInt8)))) rfl)) (fun hG33=>Yk.cell1 DT rfl (Ak (vr (cond ((decide ((x.1.head:List UInt8)≠(([]:List UInt8):List UInt8)))) (PQ f 2) undef) rfl) hG33) (Al c (show(refsC x)[2]? =some (St (x.1.head):Value)from Cq x)) ⟨rfl,rfl⟩) (BF (.bool (Ap x.1.head)) rfl rfl (gT (vr (.bool (decide ((x.1.head:List UInt8)≠(([]:List UInt8):List UInt8)))) rfl)) (fun hG34=>Yk.callA1 Jz (Ak (vr (cond ((decide ((x.1.head:List UInt8)≠(([]:List UInt8):List UInt8)))) (St (x.1.head)) undef) rfl) hG34) ((Ia _ x.1.head hL.head).mono (by rintro e r ⟨rfl,hx⟩;exact⟨_,rfl,rfl,hx⟩))) fun bs ac=> ?_)))))))))))))))
 have hE:=hE.trans ac
 have c:=eb ac c
 refine Ac (.bool (!(Ap x.1.head))) rfl rfl (gT (vr (.bool (decide ((x.1.head:List UInt8)≠(([]:List UInt8):List UInt8)))) rfl)) (fun hG38=>Yk.notB (Ak (vr (cond ((decide ((x.1.head:List UInt8)≠(([]:List UInt8):List UInt8)))) (.bool (Ap x.1.head)) undef) rfl) hG38) ⟨rfl,rfl⟩) (Ac (.bool (!(Ap x.1.head))) rfl rfl (gT (vr (.bool (decide ((x.1.head:List UInt8)≠(([]:List UInt8):List UInt8)))) rfl)) (fun hG39=>Yk.move (Ak (vr (cond ((decide ((x.1.head:List UInt8)≠(([]:List UInt8):List UInt8)))) (.bool (!(Ap x.1.head))) undef) rfl) hG39) ⟨rfl,rfl⟩) (Ac (PQ f 3) rfl rfl (D3 (vr (cond ((decide ((x.1.head:List UInt8)≠(([]:List UInt8):List UInt8)))) (.bool (!(Ap x.1.head))) undef) rfl)) (fun hG40=>Yk.fieldAt HM (vr (PQ f 0) rfl) ⟨rfl,rfl⟩) (Ac (AB x.1.at_.1) rfl rfl (D3 (vr (cond ((decide ((x.1.head:List UInt8)≠(([]:List UInt8):List UInt8)))) (.bool (!(Ap x.1.head))) undef) rfl)) (fun hG41=>Yk.loadPR (PR.blk c (B7 x) (Cm x) (Ak (vr (cond ((decide ((x.1.head:List UInt8)≠(([]:List UInt8):List UInt8)))&& !(!(Ap x.1.head))) (PQ f 3) undef) rfl) hG41)) P8 rfl (At x.1.at_.2) ⟨rfl,rfl⟩) (BF (.bool (Ai x.1.at_)) rfl rfl (D3 (vr (cond ((decide ((x.1.head:List UInt8)≠(([]:List UInt8):List UInt8)))) (.bool (!(Ap x.1.head))) undef) rfl)) (fun hG42=>Yk.callA1 GZ (Ak (vr (cond ((decide ((x.1.head:List UInt8)≠(([]:List UInt8):List UInt8)))&& !(!(Ap x.1.head))) (AB x.1.at_.1) undef) rfl) hG42) ((B9 _ x.1.at_).mono (by rintro e r ⟨rfl,hx⟩;exact⟨_,rfl,rfl,hx⟩))) fun bt ad=> ?_))))
 have hE:=hE.trans ad
 have c:=eb ad c
 refine Ac (.bool (!(Ai x.1.at_))) rfl rfl (D3 (vr (cond ((decide ((x.1.head:List UInt8)≠(([]:List UInt8):List UInt8)))) (.bool (!(Ap x.1.head))) undef) rfl)) (fun hG46=>Yk.notB (Ak (vr (cond ((decide ((x.1.head:List UInt8)≠(([]:List UInt8):List UInt8)))&& !(!(Ap x.1.head))) (.bool (Ai x.1.at_)) undef) rfl) hG46) ⟨rfl,rfl⟩) (Cv ((!(Ap x.1.head))||(!(Ai x.1.at_))) rfl rfl (gT (vr (.bool (decide ((x.1.head:List UInt8)≠(([]:List UInt8):List UInt8)))) rfl)) (fun hG47=>Yk.pickOr (Ak (vr (cond ((decide ((x.1.head:List UInt8)≠(([]:List UInt8):List UInt8)))) (.bool (!(Ap x.1.head))) undef) rfl) hG47) (vr (.bool (true)) rfl) (fun hA=>(Ak (vr (cond ((decide ((x.1.head:List UInt8)≠(([]:List UInt8):List UInt8)))&& !(!(Ap x.1.head))) (.bool (!(Ai x.1.at_))) undef) rfl) (Du hG47 (Bb hA)))) ⟨rfl,rfl⟩) fun bb48 hbb49=>(oS rfl (Yk.pickAndN (vr (.bool (decide ((x.1.head:List UInt8)≠(([]:List UInt8):List UInt8)))) rfl) (fun hA=>(Ak (vr (cond ((decide ((x.1.head:List UInt8)≠(([]:List UInt8):List UInt8)))) (.bool (bb48)) undef) rfl) hA)) (vr (.bool (false)) rfl) fun bb50 hbb51=>(oM rfl (Ac (PQ f 2) rfl rfl (gF (vr (.bool (bb50)) rfl)) (fun hG52=>Yk.fieldAt FK (vr (PQ f 0) rfl) ⟨rfl,rfl⟩) (Ac (St (x.1.head)) rfl rfl (gF (vr (.bool (bb50)) rfl)) (fun hG53=>Yk.cell1 DT rfl (Ak (vr (cond (!bb50) (PQ f 2) undef) rfl) hG53) (Al c (show(refsC x)[2]? =some (St (x.1.head):Value)from Cq x)) ⟨rfl,rfl⟩) (Ac (.bool (decide ((x.1.head:List UInt8)=(([]:List UInt8):List UInt8)))) rfl rfl (gF (vr (.bool (bb50)) rfl)) (fun hG54=>Yk.eqSt (l:=x.1.head) (m:=([]:List UInt8)) (.inl rfl) (Ak (vr (cond (!bb50) (St (x.1.head)) undef) rfl) hG54) (vr (St (([]:List UInt8))) rfl) (decide ((x.1.head:List UInt8)=(([]:List UInt8):List UInt8))) rfl ⟨rfl,rfl⟩) (Ac (.bool (decide ((x.1.head:List UInt8)=(([]:List UInt8):List UInt8)))) rfl rfl (gF (vr (.bool (bb50)) rfl)) (fun hG55=>Yk.move (Ak (vr (cond (!bb50) (.bool (decide ((x.1.head:List UInt8)=(([]:List UInt8):List UInt8)))) undef) rfl) hG55) ⟨rfl,rfl⟩) (Ac (PQ f 3) rfl rfl (Cc (vr (cond (!bb50) (.bool (decide ((x.1.head:List UInt8)=(([]:List UInt8):List UInt8)))) undef) rfl)) (fun hG56=>Yk.fieldAt HM (vr (PQ f 0) rfl) ⟨rfl,rfl⟩) (Ac (AB x.1.at_.1) rfl rfl (Cc (vr (cond (!bb50) (.bool (decide ((x.1.head:List UInt8)=(([]:List UInt8):List UInt8)))) undef) rfl)) (fun hG57=>Yk.loadPR (PR.blk c (B7 x) (Cm x) (Ak (vr (cond ((!bb50)&&(decide ((x.1.head:List UInt8)=(([]:List UInt8):List UInt8)))) (PQ f 3) undef) rfl) hG57)) P8 rfl (At x.1.at_.2) ⟨rfl,rfl⟩) (BF (.bool (Ai x.1.at_)) rfl rfl (Cc (vr (cond (!bb50) (.bool (decide ((x.1.head:List UInt8)=(([]:List UInt8):List UInt8)))) undef) rfl)) (fun hG58=>Yk.callA1 GZ (Ak (vr (cond ((!bb50)&&(decide ((x.1.head:List UInt8)=(([]:List UInt8):List UInt8)))) (AB x.1.at_.1) undef) rfl) hG58) ((B9 _ x.1.at_).mono (by rintro e r ⟨rfl,hx⟩;exact⟨_,rfl,rfl,hx⟩))) fun bu ae=> ?_)))))))))))
 have hE:=hE.trans ae
 have c:=eb ae c
 refine Cv ((decide ((x.1.head:List UInt8)=(([]:List UInt8):List UInt8)))&&(Ai x.1.at_)) rfl rfl (gF (vr (.bool (bb50)) rfl)) (fun hG62=>Yk.pickAnd (Ak (vr (cond (!bb50) (.bool (decide ((x.1.head:List UInt8)=(([]:List UInt8):List UInt8)))) undef) rfl) hG62) (fun hA=>(Ak (vr (cond ((!bb50)&&(decide ((x.1.head:List UInt8)=(([]:List UInt8):List UInt8)))) (.bool (Ai x.1.at_)) undef) rfl) (Du hG62 hA))) (vr (.bool (false)) rfl) ⟨rfl,rfl⟩) fun bb63 hbb64=>(oS rfl (Yk.pickOrN (vr (.bool (bb50)) rfl) (vr (.bool (true)) rfl) (fun hA=>(Ak (vr (cond (!bb50) (.bool (bb63)) undef) rfl) (Bb hA))) fun bb65 hbb66=>(A3 [(0, .agg (refsC x).toArray),(1,PQ f 0),(2, .bool (false)),(45, .bool (bb65))] ⟨k,rfl,rfl,rfl,trivial⟩ fun bv ⟨k,o,T2,ax,_⟩=>(tN (aw _ _ ?_)))))
 refine AW (bb65) ax (fun t=> ?_) (fun t=> ?_)
 ·subst hbb49 hbb51 hbb64 hbb66
  have h2c:Fv x.1=true:=t
  refine sk fun bw ay=>(wt (oA rfl (oZ (tN (ay _ _ (Am (An (Aj (fn:=Tryz.f13) _ rfl [.bool (false)] (.bool (false)) rfl ⟨rfl,trivial⟩ ?_))))))))
  exact⟨by rw[Lf h1c h2c],hE⟩
 subst hbb49 hbb51 hbb64 hbb66
 have h2c:Fv x.1=false:=t
 refine Aq (tN (av _ _ (sk fun bx az=>(sk fun bz a0=>(wt (oS rfl (Yk.fieldAt HK o (oS rfl (Yk.cell1 EA rfl (vr (PQ f 35) rfl) (Al c (show(refsC x)[35]? =some (x.2.log:Value)from Bn x)) (oS rfl (Yk.lenRG EA (RG.of (hml.keep hE) (vr x.2.log rfl)) (oM rfl (A3 [(0, .agg (refsC x).toArray),(1,PQ f 0),(2, .bool (false)),(47,x.2.log),(48,NI ((x.1.log).length)),(49,NI 0)] ⟨k,o,T2,rfl,rfl,rfl,trivial⟩ fun b0 ⟨k,o,T2,p,q,n,_⟩=>(tN (a0 _ _ (Av (A4 (fun(ρ:Au) (wz:World)=>∃i:Nat,ρ 0=(.agg (refsC x).toArray:Value)∧ρ 1=(PQ f 0:Value)∧ρ 47=(x.2.log:Value)∧ρ 48=(NI ((x.1.log).length):Value)∧ρ 49=(NI i:Value)∧Ext w wz∧wz.heap[f]? =some (.cells (refsC x).toArray 35 (0,0))∧(i≤x.1.log.length)∧(∀j,j<i→DU x.1.log j=false)∧True) (fun ρ _=>x.1.log.length-(intOf (ρ 49)).toNat) ⟨0,k,o,p,q,n,hE,c,Nat.zero_le _,fun j hj=>absurd hj (Nat.not_lt_zero _),trivial⟩ ?_)))))))))))))))))
 clear hE c
 rintro a1 b1 ⟨i,k,o,p,q,n,hE,c,hi,hn,-⟩
 have q49:=n
 refine sk fun b2 a2=>(wt (oS rfl (Yk.eqI (a:=(i:Nat)) (b:=((x.1.log).length:Nat)) n q (AX _ _ _ _) (oZ (tN (a2 _ _ (sk fun b3 a3=> ?_)))))))
 refine AL ((i)<((x.1.log).length)) (vr (.bool (decide ((i)<((x.1.log).length)))) rfl) (fun ag=> ?_) (fun ag=> ?_)
 ·have hlt:i<x.1.log.length:=ag
  refine Aq (tN (a3 _ _ (sk fun b4 a4=>(Av (sk fun b5 a5=>(wt ?_))))))
  have b6:(entC ((x.1.log).getD (i) Ad)).length=67:=(RG.elem (hml.keep hE) Ad (by omega))
  refine oS rfl (Yk.atRG EA MM (by decide) Ad (RG.of (hml.keep hE) p) n (by omega) fun a6 ah=>(oS rfl (Yk.loadPR (PR.of ah (vr a6 rfl)) (NH).choose_spec rfl (by rw[Bp];exact Iy) (oS rfl (Yk.alloc (cs:=(entC (⟨0,[],zid,zid,[]⟩:AM)).toArray) NJ fun g a7 a8 ai aj b7=> ?_)))))
  have a9:=hE.size
  have b8:=Bc (bl c) a8
  have hE:=hE.trans aj
  have c:=eb aj c
  have h:=ai;clear ai
  have b9:g<a7.heap.size:=by omega
  refine oS rfl (Yk.storeAll (vr (PQ g 0) rfl) (vr (.agg (entC ((x.1.log).getD (i) Ad)).toArray) rfl) h (by simp only[List.size_toArray,Bp]) (AC (Bp _) Iy) (C7 (x:=((x.1.log).getD (i) Ad))) fun ba ak al ca=> ?_)
  have hE:=Af hE al (Nat.le_trans a9 (by omega))
  have c:=kb al c (by omega)
  clear h
  have h:ba.heap[g]? =some (.cells (entC ((x.1.log).getD (i) Ad)).toArray 50 (0,0)):=ak;clear ak
  have cb:=bl h
  refine oZ ?_
  clear ah
  refine tN (a5 _ _ (sk fun cc bb=>(wt (oS rfl (Yk.fieldAt HN (vr (PQ g 0) rfl) (oS rfl (Yk.fieldAt LW (vr (PQ g 0) rfl) (oS rfl (Yk.cell1 u5 rfl (vr (PQ g 0) rfl) (Al h (show(entC ((x.1.log).getD (i) Ad))[0]? =some (B8 ((((x.1.log).getD (i) Ad)).kind):Value)from GP ((x.1.log).getD (i) Ad))) (oS rfl (Yk.callA1 NK (vr (B8 ((((x.1.log).getD (i) Ad)).kind)) rfl) ((JB _ ((((x.1.log).getD (i) Ad)).kind)).mono ?_))))))))))))
  rintro e cd ⟨rfl,u⟩
  refine⟨_,rfl,?_⟩
  have hE:=hE.trans u
  have c:=eb u c
  have h:=eb u h
  refine oS rfl (Yk.notB (vr (.bool (B3 ((((x.1.log).getD (i) Ad)).kind))) rfl) (oM rfl (Ac (PQ g 66) rfl rfl (gF (vr (.bool (!(B3 ((((x.1.log).getD (i) Ad)).kind)))) rfl)) (fun hG101=>Yk.fieldAt LX (vr (PQ g 0) rfl) ⟨rfl,rfl⟩) (Ac (St ((((x.1.log).getD (i) Ad)).note)) rfl rfl (gF (vr (.bool (!(B3 ((((x.1.log).getD (i) Ad)).kind)))) rfl)) (fun hG102=>Yk.cell1 DT rfl (Ak (vr (cond (!(!(B3 ((((x.1.log).getD (i) Ad)).kind)))) (PQ g 66) undef) rfl) hG102) (Al h (show(entC ((x.1.log).getD (i) Ad))[66]? =some (St ((((x.1.log).getD (i) Ad)).note):Value)from Fg ((x.1.log).getD (i) Ad))) ⟨rfl,rfl⟩) (BF (.bool (BL ((((x.1.log).getD (i) Ad)).note))) rfl rfl (gF (vr (.bool (!(B3 ((((x.1.log).getD (i) Ad)).kind)))) rfl)) (fun hG103=>Yk.callA1 NL (Ak (vr (cond (!(!(B3 ((((x.1.log).getD (i) Ad)).kind)))) (St ((((x.1.log).getD (i) Ad)).note)) undef) rfl) hG103) ((Lc _ ((((x.1.log).getD (i) Ad)).note)).mono (by rintro e r ⟨rfl,hx⟩;exact⟨_,rfl,rfl,hx⟩))) fun ce v=> ?_)))))
  have hE:=hE.trans v
  have c:=eb v c
  have h:=eb v h
  refine Ac (.bool (!(BL ((((x.1.log).getD (i) Ad)).note)))) rfl rfl (gF (vr (.bool (!(B3 ((((x.1.log).getD (i) Ad)).kind)))) rfl)) (fun hG107=>Yk.notB (Ak (vr (cond (!(!(B3 ((((x.1.log).getD (i) Ad)).kind)))) (.bool (BL ((((x.1.log).getD (i) Ad)).note))) undef) rfl) hG107) ⟨rfl,rfl⟩) (oS rfl (Yk.pickOrN (vr (.bool (!(B3 ((((x.1.log).getD (i) Ad)).kind)))) rfl) (vr (.bool (true)) rfl) (fun hA=>(Ak (vr (cond (!(!(B3 ((((x.1.log).getD (i) Ad)).kind)))) (.bool (!(BL ((((x.1.log).getD (i) Ad)).note)))) undef) rfl) (Bb hA))) fun bb108 hbb109=>(oM rfl (Ac (PQ g 0) rfl rfl (gF (vr (.bool (bb108)) rfl)) (fun hG110=>Yk.fieldAt HN (vr (PQ g 0) rfl) ⟨rfl,rfl⟩) (Ac (PQ g 1) rfl rfl (gF (vr (.bool (bb108)) rfl)) (fun hG111=>Yk.fieldAt LY (Ak (vr (cond (!bb108) (PQ g 0) undef) rfl) hG111) ⟨rfl,rfl⟩) (Ac (St ((((x.1.log).getD (i) Ad)).name)) rfl rfl (gF (vr (.bool (bb108)) rfl)) (fun hG112=>Yk.cell1 DT rfl (Ak (vr (cond (!bb108) (PQ g 1) undef) rfl) hG112) (Al h (show(entC ((x.1.log).getD (i) Ad))[1]? =some (St ((((x.1.log).getD (i) Ad)).name):Value)from Il ((x.1.log).getD (i) Ad))) ⟨rfl,rfl⟩) (Ac (NI (((((x.1.log).getD (i) Ad)).name:List UInt8).length)) rfl rfl (gF (vr (.bool (bb108)) rfl)) (fun hG113=>Yk.lenSt (l:=(((x.1.log).getD (i) Ad)).name) DT (Ak (vr (cond (!bb108) (St ((((x.1.log).getD (i) Ad)).name)) undef) rfl) hG113) ⟨rfl,rfl⟩) (Ac (.bool (decide ((32)<(((((x.1.log).getD (i) Ad)).name:List UInt8).length)))) rfl rfl (gF (vr (.bool (bb108)) rfl)) (fun hG114=>Yk.eqI (a:=((((((x.1.log).getD (i) Ad)).name:List UInt8).length:Nat):Int)) (b:=((32:Nat):Int)) (Ak (vr (cond (!bb108) (NI (((((x.1.log).getD (i) Ad)).name:List UInt8).length)) undef) rfl) hG114) (vr (NI 32) rfl) (BA _ .i64 (((((x.1.log).getD (i) Ad)).name:List UInt8).length) (32)) ⟨rfl,rfl⟩) (oS rfl (Yk.pickOrN (vr (.bool (bb108)) rfl) (vr (.bool (true)) rfl) (fun hA=>(Ak (vr (cond (!bb108) (.bool (decide ((32)<(((((x.1.log).getD (i) Ad)).name:List UInt8).length)))) undef) rfl) (Bb hA))) fun bb115 hbb116=>(oZ (tN (bb _ _ ?_)))))))))))))
  refine AW (bb115) (vr (.bool (bb115)) rfl) (fun y=> ?_) (fun y=> ?_)
  ·subst hbb109 hbb116
   have hbad:DU x.1.log i=true:=y
   refine sk fun cf bc=>(wt (oA rfl (oZ (tN (bc _ _ (Am (AE (An (An (AE (An (Aj (fn:=Tryz.f13) _ rfl [.bool (false)] (.bool (false)) rfl ⟨rfl,trivial⟩ ?_))))))))))))
   exact⟨by rw[Iv h1c h2c hlt hbad],hE⟩
  subst hbb109 hbb116
  have hbad:DU x.1.log i=false:=y
  refine Aq (bN (tN (a4 _ _ (wt (oS rfl (Yk.bin (xv:=NI i) (yv:=NI 1) n rfl rfl (AA _ _ _ (by have:=hL.log;omega)) (oM rfl (A3 [(0, .agg (refsC x).toArray),(1,PQ f 0),(4,PQ g 0),(47,x.2.log),(48,NI ((x.1.log).length)),(49,NI ((i)+(1)))] ⟨k,o,rfl,p,q,rfl,trivial⟩ fun bd ⟨k,o,T4,p,q,n,_⟩=>(tN (And.intro ⟨i+1,k,o,p,q,n,hE,c,by omega,F1 hn hbad,trivial⟩ ?_))))))))))
  show x.1.log.length-(intOf (bd 49)).toNat<x.1.log.length-(intOf (a1 49)).toNat
  rw[n,q49]
  simp only[intOf,Int.toNat_natCast];omega
 refine AP (Ar (Ar (Az (tN (az _ _ (sk fun ch be=>(wt (oA rfl (oZ (tN (be _ _ (Am (Aj (fn:=Tryz.f13) _ rfl [.bool (true)] (.bool (true)) rfl ⟨rfl,trivial⟩ ?_)))))))))))))
 exact⟨by rw[Eg h1c h2c (show x.1.log.length≤i by omega) hn],hE⟩
open Go.RowKit
def Hq(l:List Oper)(i:Nat):Option Tmp:=l[i]?.bind (·.dst)
def KE(m:List Nat):List Nat→Bool
  | []=>true
  | a :: r=>r.all (fun b=>(m.getD b 0).testBit a)&&KE m r
def Qa:List Tmp→Bool
  | []=>true
  | a :: r=> !r.contains a&&Qa r
def G0(l:List Oper)(fs:List (Nat × Tmp))(cs:List Nat):Bool:=
  (List.range l.length).all (fun i=>(fs.map Prod.fst).contains i||cs.contains i) &&
  ((match cs.getLast? with | some c=>fs.all (fun p=>((A9 l []).getD c 0).testBit p.1) | none=>false)&&(Qa (fs.map Prod.snd)&&(KE (A9 l []) cs &&
  (fs.all (fun p=>match l[p.1]? with
    | some o=>(o.guard.isNone&& !cs.contains p.1)&&(o.dst==some p.2&&(((List.range (p.1+1)).all (fun j=>match l[j]? with | some q=> !(q.looksAt l.toArray).contains p.2 | none=>true))&&((List.range l.length).all (fun j=>Nat.beq j p.1||Hq l j != some p.2)&&cs.all (fun c=>match Hq l c with | some d=> !(o.looksAt l.toArray).contains d | none=>true))))
    | none=>false) &&
  (cs.all (fun c=>match l[c]? with | some o=>o.guard.isNone | none=>false) &&
   l.all (fun o=>match o.op with | .select .. =>false | _=>true))))))
def chainF(P:Program)(l:List Oper)(I:World→Prop)(K:Au→World→Prop):List Nat→Au→World→Prop
  | [],ρ,w=>K ρ w
  | i :: r,ρ,w=>match l[i]? with
    | none=>False
    | some o=>Yk P (fun v w' =>(r= []∨I w')∧chainF P l I K r (BC ρ o.dst v) w') ((execOp (Ag ρ) o).run P w)
def B1:List (Nat × Tmp × Value)→Au→Au
  | [],ρ=>ρ
  | p :: r,ρ=>B1 r (HF ρ p.2.1 p.2.2)
def C8(P:Program)(l:List Oper)(X:World→World→Prop)(I:World→Prop)(J:List PanicEntry→World→Prop)(K:Au→World→Prop):List Nat→Au→World→Prop
  | [],ρ,w=>K ρ w
  | i :: r,ρ,w=>match l[i]? with
    | none=>False
    | some o=>∀w0,X w w0→Yp P (fun v w' =>(r= []∨I w')∧C8 P l X I J K r (BC ρ o.dst v) w') J ((execOp (Ag ρ) o).run P w0)
def FloatsX(P:Program)(l:List Oper)(X:World→World→Prop)(I:World→Prop)(ρ:Au):List (Nat × Tmp × Value)→Prop
  | []=>True
  | p :: r=>(match l[p.1]? with
    | none=>False
    | some o=>∀w,I w→Yk P (fun x w' =>x=p.2.2∧X w w') ((execOp (Ag ρ) o).run P w))∧FloatsX P l X I ρ r
section
variable {P : Program} {l : List Oper} {X : World → World → Prop} {I : World → Prop} {J : List PanicEntry → World → Prop} {K : Au → World → Prop} {ρ : Au} {w : World}
theorem AR{i:Nat}{r:List Nat}{o:Oper}(ho:l[i]? =some o) 
    (h:∀w0,X w w0→Yp P (fun v w' =>(r= []∨I w')∧C8 P l X I J K r (BC ρ o.dst v) w') J ((execOp (Ag ρ) o).run P w0)):C8 P l X I J K (i :: r) ρ w:=by
  unfold C8
  rw[ho]
  exact h
theorem A7{K' :Value→World→Prop}{r:Result Next}(h:Yk P K' r):Yp P K' J r:=Yp.ofK h
theorem CA(h:K ρ w):C8 P l X I J K [] ρ w:=h
end
def FloatsO(P:Program)(l:List Oper)(I:World→Prop)(ρ:Au):List (Nat × Tmp × Value)→Prop
  | []=>True
  | p :: r=>(match l[p.1]? with
    | none=>False
    | some o=>∀w,I w→Yk P (fun x w' =>x=p.2.2∧w' =w) ((execOp (Ag ρ) o).run P w))∧FloatsO P l I ρ r
theorem Ch{P:Program}{l:List Oper}{I:World→Prop}{K:Au→World→Prop}{i:Nat}{r:List Nat}{ρ:Au}{w:World}{o:Oper}(ho:l[i]? =some o) 
    (h:Yk P (fun v w' =>(r= []∨I w')∧chainF P l I K r (BC ρ o.dst v) w') ((execOp (Ag ρ) o).run P w)):chainF P l I K (i :: r) ρ w:=by
  unfold chainF
  rw[ho]
  exact h
theorem Hr{P:Program}{l:List Oper}{I:World→Prop}{K:Au→World→Prop}{ρ:Au}{w:World}(h:K ρ w):chainF P l I K [] ρ w:=h
theorem EB{ρ:Au}{d:Tmp}{v:Value}:BC ρ (some d) v=HF ρ d v:=rfl
theorem Iz{ρ:Au}{d:Tmp}{v:Value}:HF ρ d v d=v:=by simp[HF]
theorem G1{ρ:Au}{d t:Tmp}{v:Value}(h:t≠d):HF ρ d v t=ρ t:=by
  have:Nat.beq t d=false:=by rw[←Bool.not_eq_true,Nat.beq_eq];exact h
  simp[HF,this]
theorem FL:∀(fs:List (Nat × Tmp × Value)) (ρ:Au) (t:Tmp),(∀p∈fs,p.2.1≠t)→B1 fs ρ t=ρ t
  | [],_,_,_=>rfl
  | p :: r,ρ,t,h=>by
    show B1 r (HF ρ p.2.1 p.2.2) t=_
    rw[FL r _ t (fun q hq=>h q (by simp[hq])),G1 (fun e=>h p (by simp) e.symm)]
theorem HP:∀(fs:List (Nat × Tmp × Value)) (ρ:Au),(fs.map fun p=>p.2.1).Nodup→∀p∈fs,B1 fs ρ p.2.1=p.2.2
  | q :: r,ρ,h,p,hp=>by
    have hn:=List.nodup_cons.1 h
    show B1 r (HF ρ q.2.1 q.2.2) p.2.1=_
    rcases List.mem_cons.1 hp with rfl | hp
    · rw[FL r _ _ (fun x hx e=>hn.1 (List.mem_map.2 ⟨x,hx,e⟩)),Iz]
    · exact HP r _ hn.2 p hp
theorem FloatsX.get{P:Program}{l:List Oper}{X:World→World→Prop}{I:World→Prop}{ρ:Au}:∀ {fs:List (Nat × Tmp × Value)},FloatsX P l X I ρ fs→∀p∈fs,∀o,l[p.1]? =some o→∀w,I w→Yk P (fun x w' =>x=p.2.2∧X w w') ((execOp (Ag ρ) o).run P w)
  | q :: r,h,p,hp,o,ho,w,hI=>by
    rcases List.mem_cons.1 hp with rfl | hp
    · have h1:=h.1
      rw[ho]at h1
      exact h1 w hI
    · exact FloatsX.get h.2 p hp o ho w hI
theorem FloatsO.toX{P:Program}{l:List Oper}{I:World→Prop}{ρ:Au}:∀ {fs:List (Nat × Tmp × Value)},FloatsO P l I ρ fs→FloatsX P l Eq I ρ fs
  | [],_=>trivial
  | q :: r,h=>by
    refine⟨?_,FloatsO.toX h.2⟩
    have h1:=h.1
    cases ho:l[q.1]? with
    | none=>rw[ho]at h1;exact h1
    | some o=>rw[ho]at h1;exact fun w hw=>Yk.mono (h1 w hw) fun _ _ h=>⟨h.1,h.2.symm⟩
theorem chainF.toX{P:Program}{l:List Oper}{I:World→Prop}{J:List PanicEntry→World→Prop}{K:Au→World→Prop}:∀ {cs:List Nat} {ρ:Au} {w:World},chainF P l I K cs ρ w→C8 P l Eq I J K cs ρ w
  | [],_,_,h=>h
  | i :: r,ρ,w,h=>by
    unfold chainF at h
    unfold C8
    cases ho:l[i]? with
    | none=>rw[ho]at h;exact h
    | some o=>rw[ho]at h;exact fun w0 e=>by subst e;exact .ofK (Yk.mono h fun _ _ h=>⟨h.1,chainF.toX h.2⟩)
theorem pairB_get{m:List Nat}:∀ {cs:List Nat},KE m cs=true→∀a b (u v:List Nat),cs=u++a :: v→b∈v→(m.getD b 0).testBit a=true
  | [],_,a,b,u,v,e,_=>by simp at e
  | x :: r,h,a,b,u,v,e,hb=>by
    unfold KE at h
    rw[Bool.and_eq_true]at h
    cases u with
    | nil=>
      simp at e
      obtain⟨rfl,rfl⟩:=e
      exact List.all_eq_true.1 h.1 b hb
    | cons y u=>
      simp at e
      exact pairB_get h.2 a b u v e.2 hb
theorem IA{ρ σ:Au}{o:Oper}{ops:Array Oper}(hs:∀cs b,o.op ≠ .select cs b)(h:∀t∈o.looksAt ops,σ t=ρ t):execOp (Ag σ) o=execOp (Ag ρ) o:=
  execOp_congr o hs fun x hx=>by
    cases x with
    | tmp t=>exact h t (List.mem_append_left _ (List.mem_filterMap.2 ⟨.tmp t,by simpa using hx,rfl⟩))
    | _=>rfl
section
variable {P : Program} {n : Nat} {ρ : Au} {w : World} {Q : Ce} {l : List Oper} {fs : List (Nat × Tmp × Value)} {cs : List Nat} {I : World → Prop}
structure Q2 (l : List Oper) (fs : List (Nat × Tmp × Value)) (cs : List Nat) (X : World → World → Prop) (I : World → Prop) (n : Nat) (ρf ρc : Au) (wc : World) (rest : List Nat) (listed : Array Bool) (a : Act) (w : World) : Prop where
  size:listed.size=l.length
  closed:∀i o,l[i]? =some o→On listed i→∀e∈o.after,Region.binds .any e=true→On listed e.on
  tmps:a.tmps.size=n
  defers:a.defers= []
  suffix:∃u,cs=u++rest∧(∀c∈u,On listed c)∧∀c∈rest,¬On listed c
  agree:∀t,(∀p∈fs,¬On listed p.1→p.2.1≠t)→a.tmps.getD t undef=ρc t
  ghost:∀t,(∀c∈cs,Hq l c≠some t)→ρc t=ρf t
  inv:rest= []∨I w
  turn:X wc w
  same:rest= []→wc=w
theorem Lg{a:Act}{o:Oper}{K:Act→World→Prop}{Q' :Exit→Act→World→Prop}(h:Yk P (fun v w' =>K (a.put o.dst v) w') ((execOp a.eval o).run P w)):o.wp P a w K Q' :=by
  unfold Oper.wp Oper.upon
  revert h
  generalize (execOp a.eval o).run P w=r
  intro h
  match r,h with
  | .ok (.value v) w',h=>exact h
  | .ok .skip w',h=>exact h
  | .ok (.enter f args) w',h=>
    refine Calls.mono h ?_
    rintro e w'' ⟨v,rfl,hk⟩
    exact hk
theorem Km{a:Act}{o:Oper}{K:Act→World→Prop}{Q' :Exit→Act→World→Prop}{J:List PanicEntry→World→Prop}(h:Yp P (fun v w' =>K (a.put o.dst v) w') J ((execOp a.eval o).run P w))(hJ:∀ch w',J ch w' →Q' (.panic ch) a w'):o.wp P a w K Q' :=by
  unfold Oper.wp Oper.upon
  revert h
  generalize (execOp a.eval o).run P w=r
  intro h
  match r,h with
  | .ok (.value v) w',h=>exact h
  | .ok .skip w',h=>exact h
  | .halt (.panic v) w',h=>exact hJ _ _ h
  | .ok (.enter f args) w',h=>
    refine Calls.mono h ?_
    intro e w'' hx
    match e,hx with
    | .returned v,hx=>exact hx
    | .panicked ch,hx=>exact hJ _ _ hx
theorem JD:∀ {l:List Tmp},Qa l=true→l.Nodup
  | [],_=>List.nodup_nil
  | a :: r,h=>by
    unfold Qa at h
    rw[Bool.and_eq_true]at h
    refine List.nodup_cons.2 ⟨fun hm=> ?_,JD h.2⟩
    have:=h.1
    rw[List.contains_iff_mem.2 hm]at this
    cases this
theorem float_any{X:World→World→Prop}(hX:∀a,X a a)(hXt:∀a b c,X a b→X b c→X a c)(hIX:∀a b,I a→X a b→I b)(hg:CQ l n=true)(hb:G0 l (fs.map fun p=>(p.1,p.2.1)) cs=true)(hf:FloatsX P l X I (B1 fs ρ) fs):
    ∀(fuel:Nat) (listed:Array Bool) (a:Act) (w:World) (ρc:Au) (wc:World) (rest:List Nat),(listed.toList.filter (!·)).length=fuel→Q2 l fs cs X I n (B1 fs ρ) ρc wc rest listed a w→C8 P l X I (fun ch w' =>∀ρ',Q (.panic ch) ρ' w') (fun ρ w=>Q .normal ρ w) rest ρc wc →
      wpAny P .any l.toArray (fun e a' w' =>∃ρ',Fits n ρ' a' ∧Q e ρ' w') fuel listed a w:=by
  have g:=E0 hg
  unfold G0 at hb
  simp only[Bool.and_eq_true]at hb
  obtain⟨hcov,hlast,hnd,hpair,hfl,hcg,hsel⟩:=hb
  have hcov' :∀i,i<l.length→(∃p∈fs,p.1=i)∨i∈cs:=fun i hi=>by
    have:=List.all_eq_true.1 hcov i (by simpa using hi)
    rw[Bool.or_eq_true]at this
    rcases this with h | h
    · left
      have:=List.contains_iff_mem.1 h
      simp at this
      obtain⟨d,v,h⟩:=this
      exact⟨_,h,rfl⟩
    · exact .inr (List.contains_iff_mem.1 h)
  have hfl' :∀p∈fs,∃o,l[p.1]? =some o∧o.guard=none∧p.1∉cs∧o.dst=some p.2.1∧(∀j q,j≤p.1→l[j]? =some q→p.2.1∉q.looksAt l.toArray)∧(∀j,j<l.length→j≠p.1→Hq l j≠some p.2.1)∧∀c∈cs,∀d,Hq l c=some d→d∉o.looksAt l.toArray:=fun p hp=>by
    have:=List.all_eq_true.1 hfl (p.1,p.2.1) (List.mem_map.2 ⟨p,hp,rfl⟩)
    dsimp only at this
    cases ho:l[p.1]? with
    | none=>rw[ho]at this;cases this
    | some o=>
      rw[ho]at this
      simp only[Bool.and_eq_true]at this
      obtain⟨⟨h1,h1c⟩,h2,h5,h3,h4⟩:=this
      refine⟨o,rfl,by simpa using h1,fun hc=> ?_,by simpa using h2,fun j q hj hq hx=> ?_,fun j hj hne e=> ?_,fun c hc d hd hx=> ?_⟩
      · rw[List.contains_iff_mem.2 hc]at h1c;cases h1c
      · have:=List.all_eq_true.1 h5 j (by simp;omega)
        rw[hq]at this
        simp only at this
        rw[List.contains_iff_mem.2 hx]at this
        cases this
      · have:=List.all_eq_true.1 h3 j (by simpa using hj)
        rw[Bool.or_eq_true]at this
        rcases this with h | h
        · exact hne (Nat.eq_of_beq_eq_true h)
        · rw[e]at h;simp at h
      · have:=List.all_eq_true.1 h4 c hc
        rw[hd]at this
        simp only at this
        rw[List.contains_iff_mem.2 hx]at this
        cases this
  have hcg' :∀c∈cs,∃o,l[c]? =some o∧o.guard=none:=fun c hc=>by
    have:=List.all_eq_true.1 hcg c hc
    cases ho:l[c]? with
    | none=>rw[ho]at this;cases this
    | some o=>rw[ho]at this;exact⟨o,rfl,by simpa using this⟩
  have hsel' :∀(i:Nat) (o:Oper),l[i]? =some o→∀cs b,o.op≠Op.select cs b:=fun i o ho cs b e=>by
    have:=List.all_eq_true.1 hsel o (List.mem_of_getElem? ho)
    rw[e]at this
    cases this
  have hnew:∀p∈fs,B1 fs ρ p.2.1=p.2.2:=HP fs ρ (by
    have:=JD hnd
    rw[List.map_map]at this
    exact this)
  have hlt:∀(i:Nat) (o:Oper),l[i]? =some o→i<l.length:=fun i o ho=>(List.getElem?_eq_some_iff.1 ho).1
  -- all are done
  have fin:∀(listed:Array Bool) (a:Act) (w:World) (ρc:Au) (wc:World) (rest:List Nat),Q2 l fs cs X I n (B1 fs ρ) ρc wc rest listed a w→C8 P l X I (fun ch w' =>∀ρ',Q (.panic ch) ρ' w') (fun ρ w=>Q .normal ρ w) rest ρc wc→(∀i,i<l.length→On listed i)→∃ρ',Fits n ρ' a∧Q .normal ρ' w:=fun listed a w ρc wc rest h hc hall=>by
    obtain⟨u,hu,m,s⟩:=h.suffix
    cases rest with
    | nil=>exact⟨ρc,⟨h.tmps,h.defers,fun t=>h.agree t (fun p hp hno=>by
        obtain⟨o,ho,-⟩:=hfl' p hp
        exact absurd (hall p.1 (hlt _ _ ho)) hno)⟩,by have e:=h.same rfl;subst e;exact hc⟩
    | cons c r=>
      obtain⟨o,ho,-⟩:=hcg' c (by rw[hu];simp)
      exact absurd (hall c (hlt _ _ ho)) (s c (by simp))
  intro fuel
  induction fuel with
  | zero=>
    intro listed a w ρc wc rest hfu h hc
    have full:∀i,i<l.length→On listed i:=fun i hi=>by
      have:=D9 _ hfu i (by rw[Array.length_toList,h.size];omega)
      unfold On
      simp at this
      simp[this]
    refine⟨?_,fin listed a w ρc wc rest h hc full⟩
    cases hr:Region.ready .any l.toArray listed with
    | nil=>rfl
    | cons x xs=>
      exfalso
      have hmem:x∈Region.ready .any l.toArray listed:=by rw[hr];simp
      obtain⟨h1,o,ho,_⟩:=mem_ready.1 hmem
      have hx:x<l.length:=by simpa using (Array.getElem?_eq_some_iff.1 ho).1
      have h2:=full x hx
      have hx' :x<listed.size:=h2.lt
      unfold On at h2
      simp[hx']at h1 h2
      rw[h1]at h2
      cases h2
  | succ fuel ih=>
    intro listed a w ρc wc rest hfu h hc
    refine⟨fun hr=>fin listed a w ρc wc rest h hc fun i=> ?_,fun i hi=> ?_⟩
    · induction i using Nat.strongRecOn with
      | _ i ih2=>
        intro hi
        refine Classical.byContradiction fun hno=> ?_
        have ho:l[i]? =some l[i]:=List.getElem?_eq_getElem hi
        have:i∈Region.ready .any l.toArray listed:=by
          refine mem_ready.2 ⟨?_,l[i],by rw[List.getElem?_toArray];exact ho,fun e he hb=> ?_⟩
          · have hi' :i<listed.size:=by rw[h.size];exact hi
            unfold On at hno
            simp[hi']at hno ⊢
            exact hno
          · have hlt:=g.back i _ ho e he hb
            exact ih2 e.on hlt (by omega)
        rw[hr]at this
        cases this
    · obtain⟨h1,o,ho,hall0⟩:=mem_ready.1 hi
      have ho' :l[i]? =some o:=by simpa using ho
      have hilt:i<l.length:=hlt i o ho'
      have hil:i<listed.size:=by rw[h.size];exact hilt
      have hno:¬On listed i:=by
        unfold On
        simp[hil]at h1 ⊢
        exact h1
      have hall:∀e∈o.after,Region.binds .any e=true→On listed e.on:=fun e he hb=>hall0 e he hb
      have hI:Inv l (fun _=> []) (fun _ _=>True) (fun _ _=>True) (fun _ _ _=>True) a listed a w:=
        ⟨h.size,h.closed,rfl,rfl,fun _ _ _=>trivial,trivial,fun _ _=>rfl,fun _ _ _ _ _ _ _ _=>trivial⟩
      have hmr:∀k,((A9 l []).getD i 0).testBit k=true→On listed k:=fun k hk=>hI.maskReady ho' hall hk
      have hcnt:((listed.setIfInBounds i true).toList.filter (!·)).length=fuel:=by
        rw[Array.toList_setIfInBounds]
        have:=DX listed.toList i (by
          simp[hil]at h1
          simp[hil,h1])
        omega
      have hcl:∀j oj,l[j]? =some oj→On (listed.setIfInBounds i true) j→∀e∈oj.after,Region.binds .any e=true→On (listed.setIfInBounds i true) e.on:=fun j oj hj hon e he hb=>by
        rcases(on_set hil).1 hon with rfl | hon
        · obtain rfl:o=oj:=by rw[ho']at hj;exact Option.some.inj hj
          exact(on_set hil).2 (.inr (hall e he hb))
        · exact(on_set hil).2 (.inr (h.closed j oj hj hon e he hb))
      have hF:Fits n (fun t=>a.tmps.getD t undef) a:=⟨h.tmps,h.defers,fun t=>rfl⟩
      have hroom:∀t,o.dst=some t→t<n:=fun t ht=>g.room i o t ho' ht
      -- what it looks at is as in the frame in order
      have hlook:∀t∈o.looksAt l.toArray,a.tmps.getD t undef=ρc t:=fun t ht=>h.agree t fun q hq hnq e=>by
        subst e
        obtain⟨oq,hoq,-,-,hdq,hearly,-⟩:=hfl' q hq
        by_cases hqi:i≤q.1
        · exact hearly i o hqi ho' ht
        · exact hnq (hmr q.1 (g.tied i o q.1 oq q.2.1 ho' hoq (by omega) (.inl ⟨hdq,List.mem_append_right _ ht⟩)))
      unfold wpOp
      simp only[List.getElem?_toArray,ho']
      obtain⟨u,hu,m,s⟩:=h.suffix
      have hguard:o.guard=none:=by
        rcases hcov' i hilt with ⟨p,hp,rfl⟩ | hic
        · obtain⟨o2,f,h2,-⟩:=hfl' p hp
          rw[ho']at f
          cases f
          exact h2
        · obtain⟨o2,f,h2⟩:=hcg' i hic
          rw[ho']at f
          cases f
          exact h2
      have hw:Region.wanted o (yielded l.toArray a.tmps)=true:=by unfold Region.wanted;rw[hguard]
      rw[if_pos hw]
      rcases hcov' i hilt with ⟨p,hp,rfl⟩ | hic
      · refine .inl (Lg ?_)
        rw[hF.eval]
        obtain⟨o2,f,h2,hpc,hpd,hearly,huniq,hpl⟩:=hfl' p hp
        rw[ho']at f
        cases f
        have hghost:∀t∈o.looksAt l.toArray,a.tmps.getD t undef=B1 fs ρ t:=fun t ht=>(hlook t ht).trans (h.ghost t fun c hc e=>hpl c hc t e ht)
        rw[IA (ρ:=B1 fs ρ) (hsel' _ _ ho') hghost]
        have hrn:rest≠ []:=fun e=>by
          subst e
          rw[List.append_nil]at hu
          cases hgl:cs.getLast? with
          | none=>rw[hgl]at hlast;cases hlast
          | some c=>
            rw[hgl]at hlast
            have hcm:c∈cs:=List.mem_of_getLast? hgl
            have y:=List.all_eq_true.1 hlast (p.1,p.2.1) (List.mem_map.2 ⟨p,hp,rfl⟩)
            exact absurd (hI.mask c p.1 (m c (hu▸hcm)) y) hno
        have hIw:I w:=h.inv.elim (fun e=>absurd e hrn) (fun x=>x)
        refine Yk.mono (hf.get p hp o ho' w hIw) ?_
        rintro v w' ⟨rfl,hxw⟩
        refine ih _ _ _ ρc wc rest hcnt ⟨by simpa using h.size,hcl,(hF.put o.dst hroom _).size,(hF.put o.dst hroom _).defers,⟨u,hu,fun c hc=>(on_set hil).2 (.inr (m c hc)),fun c hc hx=> ?_⟩,fun t ht=> ?_,h.ghost, .inr (hIX _ _ hIw hxw),hXt _ _ _ h.turn hxw,fun e=>absurd e hrn⟩ hc
        · rcases(on_set hil).1 hx with rfl | hx
          · exact hpc (by rw[hu];exact List.mem_append_right _ hc)
          · exact s c hc hx
        · rw[(hF.put o.dst hroom _).get t,hpd]
          by_cases e:t=p.2.1
          · subst e
            rw[EB,Iz,h.ghost _ (fun c hc e=> ?_),hnew p hp]
            obtain⟨oc,hoc,-⟩:=hcg' c hc
            exact huniq c (hlt _ _ hoc) (fun x=>hpc (x▸hc)) e
          · rw[EB,G1 e]
            refine h.agree t fun q hq hnq=> ?_
            by_cases hqi:q.1=p.1
            · obtain⟨oq,hoq,-,-,hdq,-⟩:=hfl' q hq
              rw[hqi,ho']at hoq
              cases hoq
              rw[hpd]at hdq
              exact fun x=>e (x.symm.trans (Option.some.inj hdq).symm)
            · exact ht q hq (fun x=>by
                rcases(on_set hil).1 x with x | x
                · exact hqi x
                · exact hnq x)
      · have hir:i∈rest:=by
          rw[hu]at hic
          rcases List.mem_append.1 hic with x | x
          · exact absurd (m i x) hno
          · exact x
        cases rest with
        | nil=>cases hir
        | cons b r=>
          have hib:i=b:=by
            refine Classical.byContradiction fun hne=> ?_
            rcases List.mem_cons.1 hir with x | x
            · exact hne x
            · exact s b (by simp) (hmr b (pairB_get hpair b i u r hu x))
          subst hib
          have hc' :Yp P (fun v w' =>(r= []∨I w')∧C8 P l X I (fun ch w' =>∀ρ',Q (.panic ch) ρ' w') (fun ρ w=>Q .normal ρ w) r (BC ρc o.dst v) w') (fun ch w' =>∀ρ',Q (.panic ch) ρ' w') ((execOp (Ag ρc) o).run P w):=by
            unfold C8 at hc
            rw[ho']at hc
            exact hc w h.turn
          refine .inl (Km (J:=fun ch w' =>∀ρ',Q (.panic ch) ρ' w') ?_ fun ch w' h=>⟨_,hF,h _⟩)
          rw[hF.eval]
          rw[IA (ρ:=ρc) (hsel' _ _ ho') hlook]
          refine Yp.mono' hc' ?_ fun _ _ h=>h
          rintro v w' ⟨hIw,hcr⟩
          refine ih _ _ _ _ w' r hcnt ⟨by simpa using h.size,hcl,(hF.put o.dst hroom _).size,(hF.put o.dst hroom _).defers,⟨u++ [i],by rw[hu];simp,fun c hcm=> ?_,fun c hcm hx=> ?_⟩,fun t ht=> ?_,fun t ht=> ?_,hIw,hX _,fun _=>rfl⟩ hcr
          · rcases List.mem_append.1 hcm with x | x
            · exact(on_set hil).2 (.inr (m c x))
            · exact(on_set hil).2 (.inl (List.mem_singleton.1 x))
          · rcases(on_set hil).1 hx with rfl | hx
            · exact hno (hmr c (pairB_get hpair c c u r hu hcm))
            · exact s c (by simp[hcm]) hx
          · rw[(hF.put o.dst hroom _).get t]
            cases hd:o.dst with
            | none=>
              exact h.agree t fun q hq hnq=>ht q hq (fun x=>by
                rcases(on_set hil).1 x with x | x
                · obtain⟨_,_,_,hpc,_⟩:=hfl' q hq
                  exact hpc (x▸hic)
                · exact hnq x)
            | some d=>
              rw[EB,EB]
              by_cases e:t=d
              · subst e;rw[Iz,Iz]
              · rw[G1 e,G1 e]
                exact h.agree t fun q hq hnq=>ht q hq (fun x=>by
                  rcases(on_set hil).1 x with x | x
                  · obtain⟨_,_,_,hpc,_⟩:=hfl' q hq
                    exact hpc (x▸hic)
                  · exact hnq x)
          · have hne:=ht i hic
            unfold Hq at hne
            rw[ho']at hne
            simp only[Option.bind_some]at hne
            cases hd:o.dst with
            | none=>exact h.ghost t ht
            | some d=>
              rw[hd]at hne
              rw[EB,G1 (fun e=>hne (by rw[e]))]
              exact h.ghost t ht
theorem IB{X:World→World→Prop}(hX:∀a,X a a)(hXt:∀a b c,X a b→X b c→X a c)(fs:List (Nat × Tmp × Value))(cs:List Nat)(I:World→Prop)(hIX:∀a b,I a→X a b→I b){id:Nat}(hm:P.follows .mixedOrders=true)(hg:CQ l n=true)(hb:G0 l (fs.map fun p=>(p.1,p.2.1)) cs=true)(hI:I w.drew)(hf:FloatsX P l X I (B1 fs ρ) fs) 
    (hc:C8 P l X I (fun ch w' =>∀ρ',Q (.panic ch) ρ' w') (fun ρ w=>Q .normal ρ w) cs (B1 fs ρ) w.drew):Cf P n (.region id l.toArray true) Q ρ w:=by
  intro a ha
  exact wp_region_any hm (float_any hX hXt hIX (ρ:=ρ) hg hb hf _ _ _ _ (B1 fs ρ) w.drew cs (by simp) ⟨by simp,fun i o _ h=>absurd h On.not_replicate,ha.size,ha.defers,⟨[],rfl,(fun c hc=>by cases hc),fun c _ h=>On.not_replicate h⟩,fun t ht=>(ha.get t).trans (FL fs ρ t (fun p hp=>ht p hp On.not_replicate)).symm,fun t _=>rfl, .inr hI,hX _,fun _=>rfl⟩ hc)
theorem Fw(fs:List (Nat × Tmp × Value))(cs:List Nat)(I:World→Prop){id:Nat}(hm:P.follows .mixedOrders=true)(hg:CQ l n=true)(hb:G0 l (fs.map fun p=>(p.1,p.2.1)) cs=true)(hI:I w.drew)(hf:FloatsO P l I (B1 fs ρ) fs) 
    (hc:chainF P l I (fun ρ w=>Q .normal ρ w) cs (B1 fs ρ) w.drew):Cf P n (.region id l.toArray true) Q ρ w:=
  IB (X:=Eq) (fun _=>rfl) (fun _ _ _ h1 h2=>h1.trans h2) fs cs I (fun _ _ h e=>e▸h) hm hg hb hI hf.toX hc.toX
theorem BM(fs:List (Nat × Tmp × Value))(cs:List Nat)(I:World→Prop)(hIX:∀a b,I a→Ext a b→I b){id:Nat}(hm:P.follows .mixedOrders=true)(hg:CQ l n=true)(hb:G0 l (fs.map fun p=>(p.1,p.2.1)) cs=true)(hI:I w.drew)(hf:FloatsX P l Ext I (B1 fs ρ) fs) 
    (hc:C8 P l Ext I (fun ch w' =>∀ρ',Q (.panic ch) ρ' w') (fun ρ w=>Q .normal ρ w) cs (B1 fs ρ) w.drew):Cf P n (.region id l.toArray true) Q ρ w:=
  IB Ext.refl (fun _ _ _ h1 h2=>h1.trans h2) fs cs I hIX hm hg hb hI hf hc
end
open Go.RowKit
set_option maxHeartbeats 400000 in
theorem LZ(w:World)(v:Value)(l:List UInt8)(hr:RB w v l)(s:ByteArray)(hl:l.length+s.size+16≤140737488355328):
    Calls Tryz.prog 17 #[v, .string s] w fun e w' =>∃v',e = .returned v' ∧NewB 5 w w' v' (l++Lib.uvarint s.size++s.data.toList):=by
  obtain⟨i0,hi,a,b,c⟩:=info_parts Ih
  have h9:=DN s.size (by omega)
  have hss:s.data.toList.length=s.size:=by simp
  have HSS:=Lib.hid hss
  clear hss
  go_enter Tryz.func17,Tryz.ntmps17
  go_wp2_with fail
  refine(I7 _ _ l hr (by omega)).mono ?_
  rintro e w1 ⟨f,rfl,h1⟩
  go_wp2_with fail
  refine(Ii w.heap.size l.length s.size (by omega) f _ w1 h1.own h1.by_.size (by omega)).mono ?_
  rintro e h ⟨i,rfl,ho,g⟩
  have h2:=h1.more g ho
  go_wp2_with (at_builtin;refine BX _ rfl _ _ 28 9 rfl w.heap.size 5 i0 (.int .u8 0) 1 1 Ek hi a b c rfl _ _ _ rfl h2.own (.string s) _ _ rfl (Jo Pm _ s) ?c1 ?c2 ?c3 ?_)
  case c1=>have:=HSS.out;rw[this,List.length_append];unfold maxLen;omega
  case c2=>have:=HSS.out;rw[this,List.length_append];omega
  case c3=>exact h2.by_.size
  intro v' j hown' hgrow
  go_wp2
  go_ret
  exact⟨v',rfl,h2.more hgrow (by rw[HSS.out,List.length_append];exact hown')⟩

set_option maxHeartbeats 400000 in
theorem L0(w:World)(s:ByteArray)(hl:s.size+16≤140737488355328):
    Calls Tryz.prog 44 #[.string s] w fun e w' =>∃v',e = .returned v' ∧NewB 5 w w' v' (Lib.uvarint s.size++s.data.toList):=by
  obtain⟨i0,hi,a,b,c⟩:=info_parts Ih
  have h9:=DN s.size (by omega)
  have hss:s.data.toList.length=s.size:=by simp
  have HSS:=Lib.hid hss
  clear hss
  go_enter Tryz.func44,Tryz.ntmps44
  go_wp2_with fail
  refine(DO _ s.size (by omega)).mono ?_
  rintro e w1 ⟨f,rfl,h2⟩
  go_wp2_with (at_builtin;refine BX _ rfl _ _ 28 9 rfl w.heap.size 5 i0 (.int .u8 0) 1 1 Ek hi a b c rfl _ _ _ rfl h2.own (.string s) _ _ rfl (Jo Pm _ s) ?c1 ?c2 ?c3 ?_)
  case c1=>have:=HSS.out;rw[this];unfold maxLen;omega
  case c2=>have:=HSS.out;rw[this];omega
  case c3=>exact h2.by_.size
  intro v' g hown' hgrow
  go_wp2
  go_ret
  exact⟨v',rfl,h2.more hgrow (by rw[HSS.out];exact hown')⟩
open Go.RowKit
def Bd(s:Bs):Bs:=Lib.uvarint s.length++s
theorem Pu(w:World)(v:Value)(l:Bs)(hr:RB w v l)(s:Bs)(hl:l.length+s.length+16≤140737488355328):
    Calls Tryz.prog 17 #[v,St s] w fun e w' =>∃v',e = .returned v' ∧NewB 5 w w' v' (l++Bd s):=by
  have hs:(⟨s.toArray⟩:ByteArray).size=s.length:=by show s.toArray.size=_;rw[List.size_toArray]
  have h:=LZ w v l hr ⟨s.toArray⟩ (by rw[hs];omega)
  have e:l++Lib.uvarint (⟨s.toArray⟩:ByteArray).size++(⟨s.toArray⟩:ByteArray).data.toList=l++Bd s:=by
    unfold Bd
    rw[hs,List.append_assoc]
  rw[e]at h
  exact h
theorem Cx{n:Nat}(h:n≤9223372036854775807):(Lib.uvarint n).length≤9:=DN n (by omega)
open Go.RowKit
section
variable {P : Program} {K : Value → World → Prop} {ρ : Au} {w : World} {d : Option Tmp} {ty : TypeId} {pos : String} {af : Array Edge} {gd : Option (Nat × Bool)}
theorem Yk.lit0G{α:Type}{k:Nat}{enc:α→List Value}{t e:TypeId}(hr:∀(w:World),(Instr.buildSlice t 0 #[]).run P w = .ok (.slice (some ⟨w.heap.size,0,none⟩) 0 0) (w.alloc (.cells #[] e))) 
    (hk:∀v w',OG w.heap.size e k enc w' v []→Ext w w' →K v w'):Yk P K ((execOp (Ag ρ) ⟨d, .buildSlice t 0 #[],ty,pos,af,gd⟩).run P w):=by
  have hr' :(execOp (Ag ρ) ⟨d, .buildSlice t 0 #[],ty,pos,af,gd⟩).run P w = .ok (.value (.slice (some ⟨w.heap.size,0,none⟩) 0 0)) (w.alloc (.cells #[] e)):=by
    unfold execOp
    simp only[List.map_toArray,List.map_nil,Sem.run_bind,hr,Result.andThen_ok,Sem.run_pure]
  rw[hr']
  refine hk _ _ ⟨fun x hx=>(List.not_mem_nil hx).elim,⟨by simp, .inr ⟨w.heap.size,0,#[],rfl,Nat.le_refl _,heap_alloc_new w _,Nat.le_refl _,by simp[maxLen],by simp,by simp⟩⟩⟩ (Below.alloc (Below.refl _ _) (Nat.le_refl _) _)
theorem Yk.slicePR{t e:TypeId}{n:Nat}(ht:P.underlying t=some (.array n e))(he:∀w' :World,(sizeOf e).run P w' = .ok 1 w'){x:Operand}{l:List UInt8} 
    (h:PR (Lib.byteCells l) (Ag ρ x) w) (hl:l.length=n) (hn:n≤1048576) (hk:∀v,RB w v l→K v w):Yk P K ((execOp (Ag ρ) ⟨d, .slice t x none none none,ty,pos,af,gd⟩).run P w):=by
  obtain⟨b,o,hx,hr⟩:=h
  subst hl
  refine Yk.sliceArr ht he hx (hk _ ⟨by rw[Lib.byteCells_length,Nat.mul_one],_,_,rfl,Nat.le_refl _,by unfold maxLen;omega,(fun h=>by cases h),fun a ha j u hu=> ?_⟩)
  cases ha
  rw[Addr.add_lit]
  exact hr j u hu
end
theorem CR{w:World}{α:Type}{b k:Nat}{e:TypeId}{enc:α→List Value}{v:Value}{l l' :List α}(h:OG b e k enc w v l)(e' :l=l'):OG b e k enc w v l' :=by rw[←e'];exact h
open Go.RowKit
theorem Hs{P:Program}{e:TypeId}{k b:Nat}(h:(P.info? e).map (fun i=>(i.zero.map (fun z=>z.cells.size),i.size,i.bytes))=some (some k,k,b)):∃z,(P.info? e).map (fun i=>(i.zero,i.size,i.bytes))=some (some z,k,b)∧z.cells.size=k:=by
  cases hi:P.info? e with
  | none=>rw[hi]at h;cases h
  | some i=>
    rw[hi]at h
    simp only[Option.map_some,Option.some.injEq,Prod.mk.injEq]at h
    cases hz:i.zero with
    | none=>rw[hz]at h;cases h.1
    | some z=>
      rw[hz]at h
      simp only[Option.map_some,Option.some.injEq]at h
      exact⟨z,by simp[hz,h.2.1,h.2.2],h.1⟩
open Go.RowKit
set_option maxRecDepth 100000
theorem Fx{α:Type}{l:List α}{i:Nat}{d:α}(h:i<l.length):l.take i++ [l.getD i d]=l.take (i+1):=by
 rw[List.take_add_one,List.getElem?_eq_getElem h,List.getD_eq_getElem?_getD,List.getElem?_eq_getElem h];rfl

set_option maxHeartbeats 1600000
open Go.RowKit
structure Jb (r : A0) : Prop where
  bn:∀u∈r.branches,u.name.length≤9223372036854775807
  tn:∀u∈r.tags,u.name.length≤9223372036854775807
  head:r.head.length≤9223372036854775807
theorem NM{a b c:Nat}(h:((decide (80<a)||decide (80<b))||decide (80<c))=false):a≤80∧b≤80∧c≤80:=by
  simp only[Bool.or_eq_false_iff,decide_eq_false_iff_not]at h
  omega
theorem Rx{r:A0}(h:Jb r)(hc:r.branches.length≤80∧r.tags.length≤80∧r.log.length≤80):By r:=⟨by omega,by omega,by omega,h.bn,h.tn,h.head⟩
open Go.RowKit
set_option maxRecDepth 100000
open Go.ChangeShapes Go.WideShapes Go.ChangeAt Go.Deep
theorem HQ{H:Type}{enc:TypeId × Value→H}{W:World}:Opn enc Tryz.prog W 61 nmdC (fun x:AK=>x.name.length≤9223372036854775807):=fun fuel cs x h=>by
 have ht:Tryz.prog.underlying 61=some (.struct (Tryz.prog.fieldsOf 61)):=by kernel_rfl
 obtain⟨a0,a,k0⟩:=BU (i:=0) (ty:=9) (o:=0) (k:=1) ht h (by kernel_rfl) (by kernel_rfl) (Opn.strL (by kernel_rfl))
 obtain⟨a1,b,k1⟩:=BU (i:=1) (ty:=24) (o:=1) (k:=32) ht h (by kernel_rfl) (by kernel_rfl) (Opn.id (e:=5) (by kernel_rfl) (by kernel_rfl) (by kernel_rfl) (by kernel_rfl))
 have hl:cs.drop 33= []:=List.drop_of_length_le (Nat.le_of_eq ((EO ht h).trans (by kernel_rfl)))
 refine⟨⟨a0,a1⟩,?_,k0⟩
 rw[show cs=cs.drop 0 from rfl]
 rw[a]
 rw[show cs.drop (0+1)=_ from b]
 rw[show cs.drop (1+32)= []from hl]
 simp[nmdC]
instance:Inhabited AK:=⟨dNmd⟩
instance:Inhabited AM:=⟨Ad⟩
theorem L1{H:Type}{enc:TypeId × Value→H}{W:World}:Opn enc Tryz.prog W 48 updC (fun x:Ba=>True):=fun fuel cs x h=>by
 have ht:Tryz.prog.underlying 48=some (.struct (Tryz.prog.fieldsOf 48)):=by kernel_rfl
 obtain⟨a0,a,k0⟩:=BU (i:=0) (ty:=5) (o:=0) (k:=1) ht h (by kernel_rfl) (by kernel_rfl) (Opn.u8 (by kernel_rfl))
 obtain⟨a1,b,k1⟩:=BU (i:=1) (ty:=9) (o:=1) (k:=1) ht h (by kernel_rfl) (by kernel_rfl) (Opn.str (by kernel_rfl))
 obtain⟨a2,c,k2⟩:=BU (i:=2) (ty:=24) (o:=2) (k:=32) ht h (by kernel_rfl) (by kernel_rfl) (Opn.id (e:=5) (by kernel_rfl) (by kernel_rfl) (by kernel_rfl) (by kernel_rfl))
 obtain⟨a3,f,k3⟩:=BU (i:=3) (ty:=24) (o:=34) (k:=32) ht h (by kernel_rfl) (by kernel_rfl) (Opn.id (e:=5) (by kernel_rfl) (by kernel_rfl) (by kernel_rfl) (by kernel_rfl))
 have hl:cs.drop 66= []:=List.drop_of_length_le (Nat.le_of_eq ((EO ht h).trans (by kernel_rfl)))
 refine⟨⟨a0,a1,a2,a3⟩,?_,trivial⟩
 rw[show cs=cs.drop 0 from rfl]
 rw[a]
 rw[show cs.drop (0+1)=_ from b]
 rw[show cs.drop (1+1)=_ from c]
 rw[show cs.drop (2+32)=_ from f]
 rw[show cs.drop (34+32)= []from hl]
 simp[updC]
theorem L2{H:Type}{enc:TypeId × Value→H}{W:World}:Opn enc Tryz.prog W 50 entC (fun _:AM=>True):=fun fuel cs _ h=>by
 have ht:Tryz.prog.underlying 50=some (.struct (Tryz.prog.fieldsOf 50)):=by kernel_rfl
 obtain⟨a0,a,-⟩:=BU (i:=0) (ty:=48) (o:=0) (k:=66) ht h (by kernel_rfl) (by kernel_rfl) (L1)
 obtain⟨a1,b,-⟩:=BU (i:=1) (ty:=9) (o:=66) (k:=1) ht h (by kernel_rfl) (by kernel_rfl) (Opn.str (by kernel_rfl))
 have hl:cs.drop 67= []:=List.drop_of_length_le (Nat.le_of_eq ((EO ht h).trans (by kernel_rfl)))
 refine⟨⟨a0.kind,a0.name,a0.old,a0.new,a1⟩,?_,trivial⟩
 rw[show cs=cs.drop 0 from rfl]
 rw[a]
 rw[show cs.drop (0+66)=_ from b]
 rw[show cs.drop (66+1)= []from hl]
 simp[updC,entC]
theorem Lh{H:Type}{enc:TypeId × Value→H}{W:World}:Opn enc Tryz.prog W 27 refsC (fun x:Ah=>RG 33 nmdC W x.2.branches x.1.branches∧(∀u∈x.1.branches,u.name.length≤9223372036854775807)∧RG 33 nmdC W x.2.tags x.1.tags∧(∀u∈x.1.tags,u.name.length≤9223372036854775807)∧x.1.head.length≤9223372036854775807∧RG 67 entC W x.2.log x.1.log):=fun fuel cs x h=>by
 have ht:Tryz.prog.underlying 27=some (.struct (Tryz.prog.fieldsOf 27)):=by kernel_rfl
 obtain⟨a0,b,k0⟩:=BU (i:=0) (ty:=22) (o:=0) (k:=1) ht h (by kernel_rfl) (by kernel_rfl) (Opn.slice (by kernel_rfl) (by kernel_rfl) (by decide) HQ (fun a _=>Bq a))
 obtain⟨a1,c,k1⟩:=BU (i:=1) (ty:=22) (o:=1) (k:=1) ht h (by kernel_rfl) (by kernel_rfl) (Opn.slice (by kernel_rfl) (by kernel_rfl) (by decide) HQ (fun a _=>Bq a))
 obtain⟨a2,f,k2⟩:=BU (i:=2) (ty:=9) (o:=2) (k:=1) ht h (by kernel_rfl) (by kernel_rfl) (Opn.strL (by kernel_rfl))
 obtain⟨a3,g,k3⟩:=BU (i:=3) (ty:=24) (o:=3) (k:=32) ht h (by kernel_rfl) (by kernel_rfl) (Opn.id (e:=5) (by kernel_rfl) (by kernel_rfl) (by kernel_rfl) (by kernel_rfl))
 obtain⟨a4,j,k4⟩:=BU (i:=4) (ty:=25) (o:=35) (k:=1) ht h (by kernel_rfl) (by kernel_rfl) (Opn.slice (by kernel_rfl) (by kernel_rfl) (by decide) L2 (fun a _=>Bp a))
 have hl:cs.drop 36= []:=List.drop_of_length_le (Nat.le_of_eq ((EO ht h).trans (by kernel_rfl)))
 refine⟨(⟨a0.2,a1.2,a2,a3,a4.2⟩,⟨a0.1,a1.1,a4.1⟩),?_,⟨k0.1,k0.2,k1.1,k1.2,k2,k4.1⟩⟩
 rw[show cs=cs.drop 0 from rfl]
 rw[b]
 rw[show cs.drop (0+1)=_ from c]
 rw[show cs.drop (1+1)=_ from f]
 rw[show cs.drop (2+1)=_ from g]
 rw[show cs.drop (3+32)=_ from j]
 rw[show cs.drop (35+1)= []from hl]
 simp[refsC]
theorem NN{H:Type}{enc:TypeId × Value→H}{W:World}{r:Reach}{b0:Nat}{v:Value}{d:DataW H}{ps:List MemPlace}(hval:Value.okWide Tryz.prog W r b0 27 v)(hd:DataW.Trod enc Tryz.prog W 0 (fun _=>true) true 27 v d ps):
  ∃x:Ah,v = .agg (refsC x).toArray∧RefsAt W x∧Jb x.1∧∀p∈ps,p.block<W.heap.size:=by
 obtain⟨fuel,hf⟩:=hd
 have hlt:=DataW.trod_lt fuel _ _ _ hf
 obtain⟨cs,rfl,-⟩:=okWide_struct (fs:=Tryz.prog.fieldsOf 27) (by kernel_rfl) hval
 obtain⟨x,h1,h2,h3,h4,h5,h6,h7⟩:=Lh _ _ _ hf
 have h1:cs.toList=refsC x:=h1
 exact⟨x,by rw[←h1],⟨h2,h4,h7⟩,⟨h3,h5,h6⟩,hlt⟩
open Go.RowKit
set_option maxRecDepth 100000
theorem Pv:AI Tryz.prog 38:=fun _ _=>by kernel_rfl
set_option maxHeartbeats 1600000
theorem NO(w:World)(v:Value)(l:Bs)(hr:RB w v l)(hl:l.length+64≤140737488355328)(id:BS):
  Calls Tryz.prog 19 #[v,AB id.1] w fun e w' =>∃v',e = .returned v' ∧NewB 5 w w' v' (l++id.1):=by
 refine As (args:= [v,AB id.1]) Tryz.func19 rfl 9 rfl (Nat.le_of_ble_eq_true rfl) ?_
 intro m hb
 have q:m 0=(v:Value):=hb.get 0
 have r:m 1=(AB id.1:Value):=hb.get 1
 clear hb
 have hE:=Ext.refl w
 refine sk fun K1 s=>(wt (oS rfl (Yk.box (cs:=(Lib.byteCells id.1:List Value).toArray) r fun b c ac n t ad=> ?_)))
 have hE:=hE.trans t
 have a:=n;clear n
 have ae:b<c.heap.size:=by omega
 refine oA rfl (oZ (tN (s _ _ (sk fun af u=> ?_))))
 have o:Ext c (World.drew c):=(Below.refl _ _).drew
 have hE:=hE.trans o
 have a:=eb o a
 refine Fw [(2,7, .slice (some ⟨b,0,none⟩) 32 32)] [0,1,3,4] (fun wz=>Ext w wz∧wz.heap[b]? =some (.cells (Lib.byteCells id.1).toArray 24 (0,0))∧True) (by kernel_rfl) (by kernel_rfl) (by kernel_rfl) ⟨hE,a,trivial⟩ ⟨fun ag ⟨hE,a,_⟩=>Yk.sliceArr P8 MH (vr (PQ b 0) rfl) ⟨rfl,rfl⟩,trivial⟩ (Ch rfl (Yk.move q ?_))
 refine⟨.inr ⟨hE,a,trivial⟩,?_⟩
 refine Ch rfl (Yk.callA1 Pv (vr v rfl) ((I7 _ v (l) (hr.keep hE) (by omega)).mono ?_))
 rintro e x ⟨k,rfl,f⟩
 refine⟨_,rfl,?_⟩
 have h:=Ext.refl (World.drew c)
 have ah:=hE
 have y:w.heap.size≤(World.drew c).heap.size:=hE.size
 have p:OB k b:=Be f.own (bl a)
 have hE:=hE.trans f.ext
 have a:=eb f.ext a
 have h:=h.trans f.ext
 have j:=f.own;clear f
 refine⟨.inr ⟨hE,a,trivial⟩,?_⟩
 refine Ch rfl (Yk.appendRB _ _ (World.drew c).heap.size (.int .u8 0) Ek Ih rfl Ek (l) (id.1) (B4 j (vr k rfl)) (RB.of (RB.ofBlkN a id.2 (by decide)) (vr (.slice (some ⟨b,0,none⟩) 32 32) rfl)) (by rw[id.2];omega) h.size fun i z aa g=> ?_)
 have g:Grew x z k i:=g
 have ai:OB i b:=AU g p (bl a)
 have hE:=AZ hE g j y
 have a:=AN a g p
 have h:=AZ h g j (Nat.le_refl _)
 clear j
 refine⟨.inr ⟨hE,a,trivial⟩,?_⟩
 refine Ch rfl (Yk.assign (vr i rfl) ?_)
 refine⟨.inl rfl,?_⟩
 refine Hr (tN (u _ _ (Am (Aj (fn:=Tryz.f19) _ rfl [i] (i) rfl ⟨rfl,trivial⟩ ?_))))
 exact⟨_,rfl,⟨Bg aa (by omega),hE.grown⟩⟩
open Go.RowKit
abbrev Bj(v:Value)(b:Bs)(i:Nat):D2:=(⟨b,((i:Nat):Int)⟩,⟨v⟩)
def DC(b:Bs)(i:Nat):Option (UInt8 × Nat):=if i<b.length then some (b.getD i 0,i+1)else none
def Di(b:Bs)(i:Nat):Option (Nat × Nat):=(AT 0 (b.drop i)).map fun x=>(x.1,i+x.2)
def BB(b:Bs)(i most:Nat):Option (Bs × Nat):=match AT 0 (b.drop i)with
  | none=>none
  | some x=>if most<x.1 then none else if b.length<i+x.2+x.1 then none else some ((b.drop (i+x.2)).take x.1,i+x.2+x.1)
def C9(b:Bs)(i:Nat):Option (BS × Nat):=if h:i+32≤b.length then some (⟨(b.drop i).take 32,by rw[List.length_take,List.length_drop];omega⟩,i+32)else none
theorem Pw{b:Bs}{i n:Nat}{c:UInt8}(h:DC b i=some (c,n)):n≤b.length:=by
  unfold DC at h
  split at h
  · cases h;omega
  · cases h
theorem Qt{b:Bs}{i n k:Nat}(hi:i≤b.length)(h:Di b i=some (k,n)):n≤b.length:=by
  unfold Di at h
  cases hd:AT 0 (b.drop i)with
  | none=>rw[hd]at h;cases h
  | some x=>
    rw[hd]at h
    cases h
    have:=(EP _ _ _ hd).2.1
    rw[List.length_drop]at this
    omega
theorem txtP_le{b:Bs}{i most n:Nat}{s:Bs}(h:BB b i most=some (s,n)):n≤b.length∧s.length≤most:=by
  unfold BB at h
  split at h
  · cases h
  · split at h
    · cases h
    · split at h
      · cases h
      · cases h
        rw[List.length_take,List.length_drop]
        omega
theorem IC{b:Bs}{i n:Nat}{x:BS}(h:C9 b i=some (x,n)):n≤b.length:=by
  unfold C9 at h
  split at h
  · cases h;omega
  · cases h
theorem RB.keptE{w w' :World}{v:Value}{l:List UInt8}(h:RB w v l){row:Option Nat}(hg:w.grownBy w' row)(hv:l= []∨v.ownBlock≠row):RB w' v l:=by
  rcases hv with rfl | hv
  · obtain⟨h1,ao,cap,rfl,h2,h3,h4,h5⟩:=h
    exact⟨h1,ao,cap,rfl,h2,h3,h4,fun a ha j u hu=>by simp[Lib.byteCells]at hu⟩
  · exact RB.kept h hg (.inr hv)
def CT{σ:Type}(f:σ→Option σ):Nat→σ→Option σ
  | 0,s=>some s
  | n+1,s=>(CT f n s).bind f
theorem Ge{σ:Type}{f:σ→Option σ}{s:σ}{j:Nat}(h:CT f j s=none):∀n,j≤n→CT f n s=none
  | 0,hn=>by(have:j=0:=by omega);rw[this]at h;exact h
  | n+1,hn=>by
    by_cases e:j=n+1
    · rw[←e];exact h
    · show(CT f n s).bind f=none
      rw[Ge h n (by omega)];rfl
theorem Fh{σ:Type}{f:σ→Option σ}{s t:σ}{j:Nat}(h:CT f j s=some t):CT f (j+1) s=f t:=by
  show(CT f j s).bind f=_
  rw[h];rfl
def Gf{σ:Type}(b:Bs)(i most:Nat)(st:σ × Nat→Option (σ × Nat))(s:σ):Option (σ × Nat):=
  (Di b i).bind fun x=>if x.1≤most then CT st x.1 (s,x.2)else none
theorem Ib{σ:Type}{f:σ→Option σ}{s t:σ}{n:Nat}(h:CT f (n+1) s=some t):∃u,CT f n s=some u∧f u=some t:=by
  have h:(CT f n s).bind f=some t:=h
  exact Option.bind_eq_some_iff.1 h
theorem Ht{σ:Type}{f:List σ × Nat→Option (List σ × Nat)}(hf:∀s t,f s=some t→t.1.length=s.1.length+1):∀(n:Nat) {s t:List σ × Nat},CT f n s=some t→t.1.length=s.1.length+n
  | 0,s,t,h=>by cases h;rfl
  | n+1,s,t,h=>by
    obtain⟨u,h1,h2⟩:=Ib h
    rw[hf u t h2,Ht hf n h1];omega
theorem NP{σ:Type}{b:Bs}{i most:Nat}{st:σ × Nat→Option (σ × Nat)}{s:σ}{t:σ × Nat}(h:Gf b i most st s=some t):∃n j,Di b i=some (n,j)∧n≤most∧CT st n (s,j)=some t:=by
  unfold Gf at h
  rw[Option.bind_eq_some_iff]at h
  obtain⟨x,h1,h2⟩:=h
  split at h2
  · rename_i hn
    exact⟨x.1,x.2,h1,hn,h2⟩
  · cases h2
open Go.RowKit
theorem G2{l:List UInt8}{a x k:Nat}(ha:a≤l.length)(h:AT 0 (l.drop a)=some (x,k)):x<9223372036854775808∧a+k≤l.length∧1≤k:=by
  have h1:=EP _ _ _ h
  have h2:=GW _ _ _ h
  have h3:k≤9:=by have:=h1.2.2;simp at this;omega
  have h4:128^k≤128^9:=Nat.pow_le_pow_right (by decide) h3
  have h5:=h1.2.1
  rw[List.length_drop]at h5
  exact⟨Nat.lt_of_lt_of_le h2 h4,by omega,h1.1⟩
theorem Gg{α:Type}(l:List α)(a t:Nat)(d:α):(l.drop a).getD t d=l.getD (a+t) d:=by
  rw[List.getD_eq_getElem?_getD,List.getD_eq_getElem?_getD,List.getElem?_drop]
def DV:List UInt8→Nat
  | []=>0
  | c :: r=>c.toNat%128+128*DV r
theorem Gh:∀(k j:Nat) (l:List UInt8),(∀t,t<k→128≤(l.getD t 0).toNat)→k<l.length→(l.getD k 0).toNat<128→j+k≤8→¬((l.getD k 0).toNat=0∧0<j+k)→AT j l=some (DV (l.take (k+1)),k+1)
  | _,_,[],_,h,_,_,_=>by simp at h
  | 0,j,c :: r,_,_,h2,_,h4=>by
    simp only[List.getD_cons_zero]at h2 h4
    unfold AT
    rw[if_neg (by omega),if_neg (by simpa using h4)]
    rw[List.take_succ_cons,List.take_zero,DV,DV,Nat.mul_zero,Nat.add_zero,Nat.mod_eq_of_lt h2]
  | k+1,j,c :: r,h1,h0,h2,h3,h4=>by
    have hc:=h1 0 (by omega)
    simp only[List.getD_cons_zero]at hc
    simp only[List.getD_cons_succ]at h2 h4
    unfold AT
    rw[if_pos hc,if_neg (by omega),Gh k (j+1) r (fun t ht=>by have:=h1 (t+1) (by omega);simpa only[List.getD_cons_succ] using this) (by simpa using h0) h2 (by omega) (by rw[show j+1+k=j+(k+1) by omega];exact h4)]
    have hl:=c.toNat_lt
    simp only[Option.map_some,List.take_succ_cons,DV]
    rw[show c.toNat%128=c.toNat-128 by omega]
theorem HT:∀(k j:Nat) (l:List UInt8),(∀t,t<k→128≤(l.getD t 0).toNat)→k<l.length→(l.getD k 0).toNat=0→0<j+k→AT j l=none
  | _,_,[],_,h,_,_=>by simp at h
  | 0,j,c :: r,_,_,h2,h4=>by
    simp only[List.getD_cons_zero]at h2
    unfold AT
    rw[if_neg (by omega),if_pos ⟨h2,by omega⟩]
  | k+1,j,c :: r,h1,h0,h2,h4=>by
    have hc:=h1 0 (by omega)
    simp only[List.getD_cons_zero]at hc
    simp only[List.getD_cons_succ]at h2
    unfold AT
    rw[if_pos hc]
    split
    · rfl
    · rw[HT k (j+1) r (fun t ht=>by have:=h1 (t+1) (by omega);simpa only[List.getD_cons_succ] using this) (by simpa using h0) h2 (by omega)]
      rfl
theorem FM:∀(k j:Nat) (l:List UInt8),j≤8→(∀t,t<k→128≤(l.getD t 0).toNat)→(l.length≤k∨9≤j+k)→AT j l=none
  | _,j,[],_,_,_=>by simp[AT]
  | 0,j,c :: r,hj,_,h=>by simp at h;omega
  | k+1,j,c :: r,hj,h1,h=>by
    have hc:=h1 0 (by omega)
    simp only[List.getD_cons_zero]at hc
    unfold AT
    rw[if_pos hc]
    split
    · rfl
    · rw[FM k (j+1) r (by omega) (fun t ht=>by have:=h1 (t+1) (by omega);simpa only[List.getD_cons_succ] using this) (by simp at h;omega)]
      rfl
theorem JE(l:List UInt8)(i k:Nat)(hi:i<k)(hk:k≤l.length):DV ((l.take k).drop i)=(l.getD i 0).toNat%128+128*DV ((l.take k).drop (i+1)):=by
  have hl:i<(l.take k).length:=by rw[List.length_take];omega
  rw[List.drop_eq_getElem_cons hl,DV]
  congr 2
  simp[List.getD,show i<l.length by omega]
theorem Jc:∀l:List UInt8,DV l<128^l.length
  | []=>by simp[DV]
  | c :: r=>by
    have:=Jc r
    rw[DV,List.length_cons,Nat.pow_succ]
    omega
def Bh(l:Bs)(a:Nat):Nat × Nat × Nat:=match AT 0 (l.drop a)with | none=>(0,0,6) | some x=>(x.1,a+x.2,0)
def AJ(l:Bs)(a mx:Nat):Bs × Nat × Nat:=
  match AT 0 (l.drop a)with
  | none=>([],0,6)
  | some x=>if mx<x.1 then([],0,2)else if l.length-(a+x.2)<x.1 then([],0,6)else((l.drop (a+x.2)).take x.1,a+x.2+x.1,0)
theorem GC{l:Bs}{a mx:Nat}(h:AT 0 (l.drop a)=none):AJ l a mx=([],0,6):=by unfold AJ;rw[h]
theorem GD{l:Bs}{a mx n k:Nat}(h:AT 0 (l.drop a)=some (n,k)):AJ l a mx=if mx<n then([],0,2)else if l.length-(a+k)<n then([],0,6)else((l.drop (a+k)).take n,a+k+n,0):=by unfold AJ;rw[h]
theorem Kn(l:Bs)(a n:Nat):(l.drop a).take (a+n-a)=(l.drop a).take n:=by rw[Nat.add_sub_cancel_left]
def ID(l:Bs)(a i:Nat):Bs:=(l.drop a).take i++List.replicate (32-i) 0
theorem Qu{l:Bs}{a i:Nat}(hi:i≤32)(ha:a+32≤l.length):(ID l a i).length=32:=by
  unfold ID
  rw[List.length_append,List.length_take,List.length_drop,List.length_replicate]
  omega
theorem Px{l:Bs}{a i:Nat}(hi:i<32)(ha:a+32≤l.length):(ID l a i).set i (l.getD (a+i) 0)=ID l a (i+1):=by
  unfold ID
  have hl:((l.drop a).take i).length=i:=by rw[List.length_take,List.length_drop];omega
  rw[List.set_append_right _ _ (by omega),hl,Nat.sub_self,show 32-i=(32-(i+1))+1 by omega,List.replicate_succ,List.set_cons_zero,List.take_succ_eq_append_getElem (by rw[List.length_drop];omega),List.append_assoc,List.getElem_drop,List.getD_eq_getElem?_getD,List.getElem?_eq_getElem (by omega)]
  rfl
theorem Qv(l:Bs)(a:Nat):ID l a 32=(l.drop a).take 32:=by unfold ID;simp
def AS(l:Bs)(a:Nat):Bs × Nat × Nat:=if l.length<a then(List.replicate 32 0,0,1)else if l.length-a<32 then(List.replicate 32 0,0,6)else((l.drop a).take 32,a+32,0)
theorem IE(l:Bs)(a:Nat):(AS l a).1.length=32:=by
  unfold AS
  split
  · simp
  · split
    · simp
    · rw[List.length_take,List.length_drop];omega
theorem Ml(t:TypeId)(a:Nat)(h:a<9223372036854775808):Go.binOp .sub t (.int .i64 (a:Int)) (.int .i64 ((1:Nat):Int))=pure (.int .i64 ((a:Int)-1)):=by
  by_cases ha:1≤a
  · rw[B5 t a 1 h ha]
    congr 2
    omega
  · have:a=0:=by omega
    subst this
    rfl
open Go.RowKit
def Dv{α:Type}(z:α)(P:Option (α × Nat))(s:Nat × Bool):α ×(Nat × Bool):=if s.2=true then(match P with | some x=>(x.1,(x.2,true)) | none=>(z,(s.1,false)))else(z,(s.1,false))
def EU(b:Bs)(s:Nat × Bool):UInt8 ×(Nat × Bool):=Dv 0 (DC b s.1) s
def BD(b:Bs)(most:Nat)(s:Nat × Bool):Bs ×(Nat × Bool):=Dv [] (BB b s.1 most) s
def BR(b:Bs)(s:Nat × Bool):BS ×(Nat × Bool):=Dv zid (C9 b s.1) s
theorem KF{α:Type}{z a:α}{P:Option (α × Nat)}{i j:Nat}(h:P=some (a,j)):Dv z P (i,true)=(a,(j,true)):=by unfold Dv;rw[if_pos rfl,h]
theorem Gi{α:Type}{z:α}{P:Option (α × Nat)}{i:Nat}{k:Bool}(h:P=none):Dv z P (i,k)=(z,(i,false)):=by unfold Dv;rw[h];cases k <;> rfl
theorem MN{α:Type}{z:α}{P:Option (α × Nat)}{i:Nat}:Dv z P (i,false)=(z,(i,false)):=rfl
def itR{σ:Type}(f:σ ×(Nat × Bool)→σ ×(Nat × Bool)):Nat→σ ×(Nat × Bool)→σ ×(Nat × Bool)
  | 0,s=>s
  | n+1,s=>if(itR f n s).2.2=true then f (itR f n s)else itR f n s
theorem Gj{σ:Type}{f:σ ×(Nat × Bool)→σ ×(Nat × Bool)}{s:σ ×(Nat × Bool)}{l:σ}{j i:Nat}(h:itR f j s=(l,(i,true))):itR f (j+1) s=f (l,(i,true)):=by
  show(if(itR f j s).2.2=true then f (itR f j s)else itR f j s)=_
  rw[h,if_pos rfl]
theorem Gk{σ:Type}{f:σ ×(Nat × Bool)→σ ×(Nat × Bool)}{s:σ ×(Nat × Bool)}{l:σ}{j i:Nat}(h:itR f j s=(l,(i,false))):∀n,j≤n→itR f n s=(l,(i,false))
  | 0,hn=>by
    obtain rfl:j=0:=by omega
    exact h
  | n+1,hn=>by
    by_cases e:j=n+1
    · subst e;exact h
    · have ih:=Gk h n (by omega)
      show(if(itR f n s).2.2=true then f (itR f n s)else itR f n s)=_
      rw[ih]
      rfl
theorem txtR_len{b s:Bs}{most:Nat}{z t:Nat × Bool}(h:BD b most z=(s,t)):s.length≤most:=by
  unfold BD Dv at h
  split at h
  · cases hp:BB b z.1 most with
    | none=>rw[hp]at h;cases h;exact Nat.zero_le _
    | some x=>rw[hp]at h;cases h;exact(txtP_le (n:=x.2) hp).2
  · cases h;exact Nat.zero_le _
theorem Jd{σ:Type}{f:List σ ×(Nat × Bool)→List σ ×(Nat × Bool)}(hf:∀s,(f s).1.length=s.1.length+1):∀(n:Nat) (s:List σ ×(Nat × Bool)),(itR f n s).1.length≤s.1.length+n∧(s.2.2=false→itR f n s=s)
  | 0,s=>⟨Nat.le_refl _,fun _=>rfl⟩
  | n+1,s=>by
    have ih:=Jd hf n s
    refine⟨?_,fun h=> ?_⟩
    · show(if(itR f n s).2.2=true then f (itR f n s)else itR f n s).1.length≤_
      split
      · rw[hf];have:=ih.1;omega
      · have:=ih.1;omega
    · show(if(itR f n s).2.2=true then f (itR f n s)else itR f n s)=s
      rw[ih.2 h,if_neg (by rw[h];decide)]
theorem Mm{σ:Type}{f:List σ ×(Nat × Bool)→List σ ×(Nat × Bool)}{Q:σ→Prop}(hf:∀s,(∀x∈s.1,Q x)→∀x∈(f s).1,Q x):∀(n:Nat) (s:List σ ×(Nat × Bool)),(∀x∈s.1,Q x)→∀x∈(itR f n s).1,Q x
  | 0,_,h=>h
  | n+1,s,h=>by
    have ih:=Mm hf n s h
    show ∀x∈(if(itR f n s).2.2=true then f (itR f n s)else itR f n s).1,Q x
    split
    · exact hf _ ih
    · exact ih
abbrev AF(v:Value)(b:Bs)(i:Nat)(k:Bool):CH:=(⟨b,((i:Nat):Int),k⟩,⟨v⟩)
end Go.Proofs.YtmonlobfofkbdaaGreatDoor
