/- Part 6 of what stands behind these statements: laws and walks of the functions that are reached. Conditions: those that each theorem names. -/
import Derived.Test.YtmonlobfofkbdaaDoorP5
set_option linter.unusedVariables false
namespace Go.Proofs.YtmonlobfofkbdaaDoor
open Go.RowKit
set_option maxRecDepth 100000
theorem wr14_fo29_2 : FieldOff Tryd.prog 29 2 2 := fun b o w => by simp [go_sem]
theorem wr14_ty22 : Tryd.prog.underlying 22 = some (.slice 67) := by kernel_rfl
theorem wr14_fo29_3 : FieldOff Tryd.prog 29 3 3 := fun b o w => by simp [go_sem]
theorem wr14_ty23 : Tryd.prog.underlying 23 = some (.slice 25) := by kernel_rfl
theorem wr14_fo29_4 : FieldOff Tryd.prog 29 4 4 := fun b o w => by simp [go_sem]
theorem wr14_fo29_8 : FieldOff Tryd.prog 29 8 39 := fun b o w => by simp [go_sem]
theorem wr14_ty26 : Tryd.prog.underlying 26 = some (.slice 5) := by kernel_rfl
theorem wr14_fo29_9 : FieldOff Tryd.prog 29 9 40 := fun b o w => by simp [go_sem]
theorem wr14_ty9 : Tryd.prog.underlying 9 = some (.string) := by kernel_rfl
theorem wr14_szg67 : ∀ w' : World, (sizeOf 67).run Tryd.prog w' = .ok 66 w' := fun _ => by kernel_rfl
theorem wr14_fo67_1 : FieldOff Tryd.prog 67 1 1 := fun b o w => by simp [go_sem]
theorem wr14_ty67 : ∃ fs, Tryd.prog.underlying 67 = some (.struct fs) := struct_of (by kernel_rfl)
theorem wr14_isz67 : (Tryd.prog.info? 67).map (·.size) = some 66 := by kernel_rfl
theorem wr14_eg67 : Tryd.prog.eqGuardType Tryd.prog.depth 67 = false := by kernel_rfl
theorem wr14_fo29_0 : FieldOff Tryd.prog 29 0 0 := fun b o w => by simp [go_sem]
theorem wr14_ty5 : Tryd.prog.underlying 5 = some (.int .u8) := by kernel_rfl
theorem wr14_fo29_1 : FieldOff Tryd.prog 29 1 1 := fun b o w => by simp [go_sem]
theorem wr14_ty3 : Tryd.prog.underlying 3 = some (.int .i64) := by kernel_rfl
theorem wr14_pl41 : Plain Tryd.prog 41 := fun _ _ => by kernel_rfl
theorem wr14_fo29_5 : FieldOff Tryd.prog 29 5 5 := fun b o w => by simp [go_sem]
theorem wr14_fo29_6 : FieldOff Tryd.prog 29 6 6 := fun b o w => by simp [go_sem]
theorem wr14_fo29_7 : FieldOff Tryd.prog 29 7 7 := fun b o w => by simp [go_sem]
theorem wr14_ty25 : Tryd.prog.underlying 25 = some (.array 32 5) := by kernel_rfl
theorem wr14_eg25 : Tryd.prog.eqGuardType Tryd.prog.depth 25 = false := by kernel_rfl
theorem wr14_sz5 : ∀ w' : World, (sizeOf 5).run Tryd.prog w' = .ok 1 w' := fun _ => by kernel_rfl
theorem wr14_fo29_10 : FieldOff Tryd.prog 29 10 41 := fun b o w => by simp [go_sem]
theorem wr14_fo29_11 : FieldOff Tryd.prog 29 11 73 := fun b o w => by simp [go_sem]
theorem wr14_fo29_12 : FieldOff Tryd.prog 29 12 105 := fun b o w => by simp [go_sem]
theorem wr14_ty4 : Tryd.prog.underlying 4 = some (.bool) := by kernel_rfl
theorem wr14_fo29_13 : FieldOff Tryd.prog 29 13 106 := fun b o w => by simp [go_sem]
theorem wr14_ty27 : Tryd.prog.underlying 27 = some (.int .i64) := by kernel_rfl
theorem wr14_bs29_0_1h (z0 : Int) (z1 : Int) (w : World) : (Instr.build 29 #[(0, .int .u8 z0), (1, .int .i64 z1)]).run Tryd.prog w = .ok (.agg #[.int .u8 z0, .int .i64 z1, .slice none 0 0, .slice none 0 0, .slice none 0 0, .int .i64 0, .int .i64 0, .int .u8 0, .int .u8 0, .int .u8 0, .int .u8 0, .int .u8 0, .int .u8 0, .int .u8 0, .int .u8 0, .int .u8 0, .int .u8 0, .int .u8 0, .int .u8 0, .int .u8 0, .int .u8 0, .int .u8 0, .int .u8 0, .int .u8 0, .int .u8 0, .int .u8 0, .int .u8 0, .int .u8 0, .int .u8 0, .int .u8 0, .int .u8 0, .int .u8 0, .int .u8 0, .int .u8 0, .int .u8 0, .int .u8 0, .int .u8 0, .int .u8 0, .int .u8 0, .slice none 0 0, .string ⟨#[]⟩, .int .u8 0, .int .u8 0, .int .u8 0, .int .u8 0, .int .u8 0, .int .u8 0, .int .u8 0, .int .u8 0, .int .u8 0, .int .u8 0, .int .u8 0, .int .u8 0, .int .u8 0, .int .u8 0, .int .u8 0, .int .u8 0, .int .u8 0, .int .u8 0, .int .u8 0, .int .u8 0, .int .u8 0, .int .u8 0, .int .u8 0, .int .u8 0, .int .u8 0, .int .u8 0, .int .u8 0, .int .u8 0, .int .u8 0, .int .u8 0, .int .u8 0, .int .u8 0, .int .u8 0, .int .u8 0, .int .u8 0, .int .u8 0, .int .u8 0, .int .u8 0, .int .u8 0, .int .u8 0, .int .u8 0, .int .u8 0, .int .u8 0, .int .u8 0, .int .u8 0, .int .u8 0, .int .u8 0, .int .u8 0, .int .u8 0, .int .u8 0, .int .u8 0, .int .u8 0, .int .u8 0, .int .u8 0, .int .u8 0, .int .u8 0, .int .u8 0, .int .u8 0, .int .u8 0, .int .u8 0, .int .u8 0, .int .u8 0, .int .u8 0, .int .u8 0, .bool false, .int .i64 0]) w := by kernel_rfl
theorem wr14_bs29_0_1 (z0 : UInt8) (z1 : Int) (w : World) : (Instr.build 29 #[(0, B8 z0), (1, .int .i64 z1)]).run Tryd.prog w = .ok (.agg (B8 (z0) :: (.int .i64 (z1) :: ((Value.slice none 0 0) :: ((Value.slice none 0 0) :: ((Value.slice none 0 0) :: (.int .i64 (0) :: (.int .i64 (0) :: (Lib.byteCells zid.1 ++ ((Value.slice none 0 0) :: (St ([]) :: (Lib.byteCells zid.1 ++ (Lib.byteCells zid.1 ++ (.bool (false) :: (.int .i64 (0) :: ([]))))))))))))))).toArray) w := by
 exact wr14_bs29_0_1h _ _ w
theorem wr14_pl16 : Plain Tryd.prog 16 := fun _ _ => by kernel_rfl
theorem wr14_bs29_0_1_13h (z0 : Int) (z1 : Int) (z13 : Int) (w : World) : (Instr.build 29 #[(0, .int .u8 z0), (1, .int .i64 z1), (13, .int .i64 z13)]).run Tryd.prog w = .ok (.agg #[.int .u8 z0, .int .i64 z1, .slice none 0 0, .slice none 0 0, .slice none 0 0, .int .i64 0, .int .i64 0, .int .u8 0, .int .u8 0, .int .u8 0, .int .u8 0, .int .u8 0, .int .u8 0, .int .u8 0, .int .u8 0, .int .u8 0, .int .u8 0, .int .u8 0, .int .u8 0, .int .u8 0, .int .u8 0, .int .u8 0, .int .u8 0, .int .u8 0, .int .u8 0, .int .u8 0, .int .u8 0, .int .u8 0, .int .u8 0, .int .u8 0, .int .u8 0, .int .u8 0, .int .u8 0, .int .u8 0, .int .u8 0, .int .u8 0, .int .u8 0, .int .u8 0, .int .u8 0, .slice none 0 0, .string ⟨#[]⟩, .int .u8 0, .int .u8 0, .int .u8 0, .int .u8 0, .int .u8 0, .int .u8 0, .int .u8 0, .int .u8 0, .int .u8 0, .int .u8 0, .int .u8 0, .int .u8 0, .int .u8 0, .int .u8 0, .int .u8 0, .int .u8 0, .int .u8 0, .int .u8 0, .int .u8 0, .int .u8 0, .int .u8 0, .int .u8 0, .int .u8 0, .int .u8 0, .int .u8 0, .int .u8 0, .int .u8 0, .int .u8 0, .int .u8 0, .int .u8 0, .int .u8 0, .int .u8 0, .int .u8 0, .int .u8 0, .int .u8 0, .int .u8 0, .int .u8 0, .int .u8 0, .int .u8 0, .int .u8 0, .int .u8 0, .int .u8 0, .int .u8 0, .int .u8 0, .int .u8 0, .int .u8 0, .int .u8 0, .int .u8 0, .int .u8 0, .int .u8 0, .int .u8 0, .int .u8 0, .int .u8 0, .int .u8 0, .int .u8 0, .int .u8 0, .int .u8 0, .int .u8 0, .int .u8 0, .int .u8 0, .int .u8 0, .int .u8 0, .int .u8 0, .int .u8 0, .bool false, .int .i64 z13]) w := by kernel_rfl
theorem wr14_bs29_0_1_13 (z0 : UInt8) (z1 : Int) (z13 : Int) (w : World) : (Instr.build 29 #[(0, B8 z0), (1, .int .i64 z1), (13, .int .i64 z13)]).run Tryd.prog w = .ok (.agg (B8 (z0) :: (.int .i64 (z1) :: ((Value.slice none 0 0) :: ((Value.slice none 0 0) :: ((Value.slice none 0 0) :: (.int .i64 (0) :: (.int .i64 (0) :: (Lib.byteCells zid.1 ++ ((Value.slice none 0 0) :: (St ([]) :: (Lib.byteCells zid.1 ++ (Lib.byteCells zid.1 ++ (.bool (false) :: (.int .i64 (z13) :: ([]))))))))))))))).toArray) w := by
 exact wr14_bs29_0_1_13h _ _ _ w
theorem wr14_pl22 : Plain Tryd.prog 22 := fun _ _ => by kernel_rfl
theorem wr14_al29 {d : Option Tmp} {ty : TypeId} {pos : String} {af : Array Edge} {gd : Option (Nat × Bool)} (σ : Operand → Value) (w : World) : (execOp σ ⟨d, .alloc 29, ty, pos, af, gd⟩).run Tryd.prog w = .ok (.value (PQ w.heap.size 0)) (w.alloc (.cells (msgC ((⟨0, 0, [], [], [], 0, 0, zid, [], [], zid, zid, false, 0⟩, ⟨.slice none 0 0, .slice none 0 0, .slice none 0 0, .slice none 0 0⟩) : MsgV)).toArray 29)) := by kernel_rfl
theorem wr14_isz29 : (Tryd.prog.info? 29).map (·.size) = some 107 := by kernel_rfl
set_option maxHeartbeats 1600000
theorem light_any (w : World) (x : MsgV) (hm : MsgAt w x) :
  Calls Tryd.prog 15 #[.agg (msgC x).toArray] w fun e w' => e = .returned (.bool (lightB x.1)) ∧ Ext w w' := by
 have hmr := hm.refs
 have hmw := hm.wants
 have hmh := hm.haves
 have hmb := hm.bytes
 refine calls_of_wpF (args := [.agg (msgC x).toArray]) Tryd.func15 rfl 47 rfl (Nat.le_of_ble_eq_true rfl) ?_
 intro ρ0 hb
 have T0 : ρ0 0 = (.agg (msgC x).toArray : Value) := hb.get 0
 clear hb
 have hE := Ext.refl w
 refine sk fun K1 hK1 => (wt (oS rfl (Yk.box (cs := (msgC x : List Value).toArray) T0 fun n2 w3 hn4 hb5 hx6 hs7 => ?_)))
 have hE := hE.trans hx6
 have hb8 := hb5; clear hb5
 have hl9 : n2 < w3.heap.size := by omega
 refine oA rfl (oZ (tN (hK1 _ _ (sk fun K10 hK10 => (sk fun K11 hK11 => (wt (oS rfl (Yk.fieldAt wr14_fo29_2 (vr (PQ n2 0) rfl) (oS rfl (Yk.cell1 wr14_ty22 rfl (vr (PQ n2 2) rfl) (cellAt hb8 (show (msgC x)[2]? = some (x.2.refs : Value) from msg_g2 x)) (oS rfl (Yk.lenRG wr14_ty22 (RG.of (hmr.keep hE) (vr x.2.refs rfl)) (oS rfl (Yk.eqI (a := ((x.1.refs).length : Nat)) (b := (140 : Nat)) rfl rfl (k_gtr _ _ _ _) (oM rfl (opsF_mayV (PQ n2 3) rfl rfl (gF (vr (.bool (decide ((140) < ((x.1.refs).length)))) rfl)) (fun hG12 => Yk.fieldAt wr14_fo29_3 (vr (PQ n2 0) rfl) ⟨rfl, rfl⟩) (opsF_mayV (x.2.wants) rfl rfl (gF (vr (.bool (decide ((140) < ((x.1.refs).length)))) rfl)) (fun hG13 => Yk.cell1 wr14_ty23 rfl (mayT (vr (cond (!(decide ((140) < ((x.1.refs).length)))) (PQ n2 3) undef) rfl) hG13) (cellAt hb8 (show (msgC x)[3]? = some (x.2.wants : Value) from msg_g3 x)) ⟨rfl, rfl⟩) (opsF_mayV (NI ((x.1.wants).length)) rfl rfl (gF (vr (.bool (decide ((140) < ((x.1.refs).length)))) rfl)) (fun hG14 => Yk.lenRG wr14_ty23 (RG.of (hmw.keep hE) (mayT (vr (cond (!(decide ((140) < ((x.1.refs).length)))) (x.2.wants) undef) rfl) hG14)) ⟨rfl, rfl⟩) (opsF_mayV (.bool (decide ((200) < ((x.1.wants).length)))) rfl rfl (gF (vr (.bool (decide ((140) < ((x.1.refs).length)))) rfl)) (fun hG15 => Yk.eqI (a := (((x.1.wants).length : Nat) : Int)) (b := ((200 : Nat) : Int)) (mayT (vr (cond (!(decide ((140) < ((x.1.refs).length)))) (NI ((x.1.wants).length)) undef) rfl) hG15) (vr (NI 200) rfl) (k_gtr _ .i64 ((x.1.wants).length) (200)) ⟨rfl, rfl⟩) (oS rfl (Yk.pickOrN (vr (.bool (decide ((140) < ((x.1.refs).length)))) rfl) (vr (.bool (true)) rfl) (fun hA => (mayT (vr (cond (!(decide ((140) < ((x.1.refs).length)))) (.bool (decide ((200) < ((x.1.wants).length)))) undef) rfl) (not_i hA))) fun bb16 hbb17 => ?_)))))))))))))))))))))
 refine oM rfl (opsF_mayV (PQ n2 4) rfl rfl (gF (vr (.bool (bb16)) rfl)) (fun hG18 => Yk.fieldAt wr14_fo29_4 (vr (PQ n2 0) rfl) ⟨rfl, rfl⟩) (opsF_mayV (x.2.haves) rfl rfl (gF (vr (.bool (bb16)) rfl)) (fun hG19 => Yk.cell1 wr14_ty23 rfl (mayT (vr (cond (!bb16) (PQ n2 4) undef) rfl) hG19) (cellAt hb8 (show (msgC x)[4]? = some (x.2.haves : Value) from msg_g4 x)) ⟨rfl, rfl⟩) (opsF_mayV (NI ((x.1.haves).length)) rfl rfl (gF (vr (.bool (bb16)) rfl)) (fun hG20 => Yk.lenRG wr14_ty23 (RG.of (hmh.keep hE) (mayT (vr (cond (!bb16) (x.2.haves) undef) rfl) hG20)) ⟨rfl, rfl⟩) (opsF_mayV (.bool (decide ((200) < ((x.1.haves).length)))) rfl rfl (gF (vr (.bool (bb16)) rfl)) (fun hG21 => Yk.eqI (a := (((x.1.haves).length : Nat) : Int)) (b := ((200 : Nat) : Int)) (mayT (vr (cond (!bb16) (NI ((x.1.haves).length)) undef) rfl) hG21) (vr (NI 200) rfl) (k_gtr _ .i64 ((x.1.haves).length) (200)) ⟨rfl, rfl⟩) (oS rfl (Yk.pickOrN (vr (.bool (bb16)) rfl) (vr (.bool (true)) rfl) (fun hA => (mayT (vr (cond (!bb16) (.bool (decide ((200) < ((x.1.haves).length)))) undef) rfl) (not_i hA))) fun bb22 hbb23 => (oM rfl (opsF_mayV (PQ n2 39) rfl rfl (gF (vr (.bool (bb22)) rfl)) (fun hG24 => Yk.fieldAt wr14_fo29_8 (vr (PQ n2 0) rfl) ⟨rfl, rfl⟩) (opsF_mayV (x.2.bytes) rfl rfl (gF (vr (.bool (bb22)) rfl)) (fun hG25 => Yk.cell1 wr14_ty26 rfl (mayT (vr (cond (!bb22) (PQ n2 39) undef) rfl) hG25) (cellAt hb8 (show (msgC x)[39]? = some (x.2.bytes : Value) from msg_g8 x)) ⟨rfl, rfl⟩) (opsF_mayV (NI ((x.1.bytes : List UInt8).length)) rfl rfl (gF (vr (.bool (bb22)) rfl)) (fun hG26 => Yk.lenRB wr14_ty26 (RB.of (hmb.keep hE) (mayT (vr (cond (!bb22) (x.2.bytes) undef) rfl) hG26)) ⟨rfl, rfl⟩) (opsF_mayV (.bool (decide ((400) < ((x.1.bytes : List UInt8).length)))) rfl rfl (gF (vr (.bool (bb22)) rfl)) (fun hG27 => Yk.eqI (a := (((x.1.bytes : List UInt8).length : Nat) : Int)) (b := ((400 : Nat) : Int)) (mayT (vr (cond (!bb22) (NI ((x.1.bytes : List UInt8).length)) undef) rfl) hG27) (vr (NI 400) rfl) (k_gtr _ .i64 ((x.1.bytes : List UInt8).length) (400)) ⟨rfl, rfl⟩) (oS rfl (Yk.pickOrN (vr (.bool (bb22)) rfl) (vr (.bool (true)) rfl) (fun hA => (mayT (vr (cond (!bb22) (.bool (decide ((400) < ((x.1.bytes : List UInt8).length)))) undef) rfl) (not_i hA))) fun bb28 hbb29 => (oM rfl (opsF_mayV (PQ n2 40) rfl rfl (gF (vr (.bool (bb28)) rfl)) (fun hG30 => Yk.fieldAt wr14_fo29_9 (vr (PQ n2 0) rfl) ⟨rfl, rfl⟩) (opsF_mayV (St (x.1.name)) rfl rfl (gF (vr (.bool (bb28)) rfl)) (fun hG31 => Yk.cell1 wr14_ty9 rfl (mayT (vr (cond (!bb28) (PQ n2 40) undef) rfl) hG31) (cellAt hb8 (show (msgC x)[40]? = some (St (x.1.name) : Value) from msg_g9 x)) ⟨rfl, rfl⟩) (opsF_mayV (NI ((x.1.name : List UInt8).length)) rfl rfl (gF (vr (.bool (bb28)) rfl)) (fun hG32 => Yk.lenSt (l := x.1.name) wr14_ty9 (mayT (vr (cond (!bb28) (St (x.1.name)) undef) rfl) hG32) ⟨rfl, rfl⟩) ?_)))))))))))))))))
 refine opsF_mayV (.bool (decide ((100) < ((x.1.name : List UInt8).length)))) rfl rfl (gF (vr (.bool (bb28)) rfl)) (fun hG33 => Yk.eqI (a := (((x.1.name : List UInt8).length : Nat) : Int)) (b := ((100 : Nat) : Int)) (mayT (vr (cond (!bb28) (NI ((x.1.name : List UInt8).length)) undef) rfl) hG33) (vr (NI 100) rfl) (k_gtr _ .i64 ((x.1.name : List UInt8).length) (100)) ⟨rfl, rfl⟩) (oS rfl (Yk.pickOrN (vr (.bool (bb28)) rfl) (vr (.bool (true)) rfl) (fun hA => (mayT (vr (cond (!bb28) (.bool (decide ((100) < ((x.1.name : List UInt8).length)))) undef) rfl) (not_i hA))) fun bb34 hbb35 => (oZ (tN (hK11 _ _ ?_)))))
 refine wpF_condB (bb34) (vr (.bool (bb34)) rfl) (fun hc0 => ?_) (fun hc0 => ?_)
 ·subst hbb17 hbb23 hbb29 hbb35
  have hbig : bigB x.1 = true := hc0
  refine sk fun K36 hK36 => (wt (oA rfl (oZ (tN (hK36 _ _ (wpF_ret (thenF_ret (postF_ret (fn := Tryd.f15) _ rfl [.bool (false)] (.bool (false)) rfl ⟨rfl, trivial⟩ ?_))))))))
  exact ⟨by rw [lightB_big hbig], hE⟩
 subst hbb17 hbb23 hbb29 hbb35
 have hbig : bigB x.1 = false := hc0
 have hl := (bigB_no hbig).1
 refine wpF_skip (tN (hK10 _ _ (sk fun K37 hK37 => (sk fun K38 hK38 => (wt (oA rfl (oL_ [(0, .agg (msgC x).toArray), (1, PQ n2 0), (2, .bool (false)), (3, NI 0)] ⟨T0, rfl, rfl, rfl, trivial⟩ fun ρ39 ⟨T0, T1, T2, T3, _⟩ => (tN (hK38 _ _ (wpF_block (wpF_loop (fun (ρ : Slots) (wz : World) => ∃ i : Nat, ρ 0 = (.agg (msgC x).toArray : Value) ∧ ρ 1 = (PQ n2 0 : Value) ∧ ρ 3 = (NI i : Value) ∧ Ext w wz ∧ wz.heap[n2]? = some (.cells (msgC x).toArray 29 (0, 0)) ∧ (i ≤ x.1.refs.length) ∧ ((x.1.refs.take i).all (fun u => !decide (100 < u.name.length)) = true) ∧ True) (fun ρ _ => x.1.refs.length - (intOf (ρ 3)).toNat) ⟨0, T0, T1, T3, hE, hb8, Nat.zero_le _, rfl, trivial⟩ ?_)))))))))))
 clear hE hb8
 rintro ρ40 w41 ⟨i, T0, T1, T3, hE, hb8, hi, hq, -⟩
 have q3 := T3
 refine sk fun K42 hK42 => (sk fun K43 hK43 => (wt (oM rfl (oS rfl (Yk.fieldAt wr14_fo29_2 T1 (oS rfl (Yk.cell1 wr14_ty22 rfl (vr (PQ n2 2) rfl) (cellAt hb8 (show (msgC x)[2]? = some (x.2.refs : Value) from msg_g2 x)) (oS rfl (Yk.lenRG wr14_ty22 (RG.of (hmr.keep hE) (vr x.2.refs rfl)) (oS rfl (Yk.eqI (a := (i : Nat)) (b := ((x.1.refs).length : Nat)) T3 rfl (k_lss _ _ _ _) (oZ (tN (hK43 _ _ ?_))))))))))))))
 refine wpF_cond ((i) < ((x.1.refs).length)) (vr (.bool (decide ((i) < ((x.1.refs).length)))) rfl) (fun hc1 => ?_) (fun hc1 => ?_)
 ·have hlt : i < x.1.refs.length := hc1
  refine wpF_skip (tN (hK42 _ _ (sk fun K44 hK44 => (wpF_block (sk fun K45 hK45 => (wt (oS rfl (Yk.fieldAt wr14_fo29_2 T1 (oS rfl (Yk.cell1 wr14_ty22 rfl (vr (PQ n2 2) rfl) (cellAt hb8 (show (msgC x)[2]? = some (x.2.refs : Value) from msg_g2 x)) (oM rfl ?_)))))))))))
  have hl48 : (updC ((x.1.refs).getD (i) dUpd)).length = 66 := (RG.elem (hmr.keep hE) dUpd (by omega))
  refine oS rfl (Yk.atRG wr14_ty22 wr14_szg67 (by decide) dUpd (RG.of (hmr.keep hE) (vr x.2.refs rfl)) T3 (by omega) fun v46 hp47 => (oS rfl (Yk.fieldPR (n := 1) wr14_fo67_1 (PR.of hp47 (vr v46 rfl)) fun v49 hp50 => ?_)))
  have hp50 : PCell (St (((x.1.refs).getD (i) dUpd).name)) v49 w41 := PR.pcell ((upd_f1 ((x.1.refs).getD (i) dUpd)) ▸ hp50)
  refine oS rfl (Yk.loadC wr14_ty9 rfl (PCell.of hp50 (vr v49 rfl)) (oS rfl (Yk.lenSt (l := ((x.1.refs).getD (i) dUpd).name) wr14_ty9 (vr (St (((x.1.refs).getD (i) dUpd).name)) rfl) (oS rfl (Yk.eqI (a := ((((x.1.refs).getD (i) dUpd).name : List UInt8).length : Nat)) (b := (100 : Nat)) rfl rfl (k_gtr _ _ _ _) (oZ ?_))))))
  clear hp47
  clear hp50
  refine tN (hK45 _ _ ?_)
  refine wpF_cond ((100) < ((((x.1.refs).getD (i) dUpd).name : List UInt8).length)) (vr (.bool (decide ((100) < ((((x.1.refs).getD (i) dUpd).name : List UInt8).length)))) rfl) (fun hc2 => ?_) (fun hc2 => ?_)
  ·refine sk fun K51 hK51 => (wt (oA rfl (oZ (tN (hK51 _ _ (wpF_ret (inBlockF_ret (thenF_ret (thenF_ret (inBlockF_ret (thenF_ret (postF_ret (fn := Tryd.f15) _ rfl [.bool (false)] (.bool (false)) rfl ⟨rfl, trivial⟩ ?_))))))))))))
   exact ⟨by rw [lightB_name hlt hc2], hE⟩
  refine wpF_skip (bN (tN (hK44 _ _ (wt (oM rfl (oS rfl (Yk.bin (xv := NI i) (yv := NI 1) T3 rfl rfl (i64_add _ _ _ (by omega)) (oA rfl (oL_ [(0, .agg (msgC x).toArray), (1, PQ n2 0), (3, NI ((i) + (1)))] ⟨T0, T1, rfl, trivial⟩ fun ρ52 ⟨T0, T1, T3, _⟩ => (tN (And.intro ⟨i + 1, T0, T1, T3, hE, hb8, by omega, all_step dUpd hlt hq (by rw [decide_eq_false hc2]; rfl), trivial⟩ ?_)))))))))))
  show x.1.refs.length - (intOf (ρ52 3)).toNat < x.1.refs.length - (intOf (ρ40 3)).toNat
  rw [T3, q3]
  simp only [intOf, Int.toNat_natCast]; omega
 refine wpF_exit (thenF_exit (thenF_exit (inBlockF_hit (tN (hK37 _ _ (sk fun K53 hK53 => (wt (oA rfl (oZ (tN (hK53 _ _ (wpF_ret (postF_ret (fn := Tryd.f15) _ rfl [.bool (true)] (.bool (true)) rfl ⟨rfl, trivial⟩ ?_)))))))))))))
 have hie : i = x.1.refs.length := by omega
 subst hie
 exact ⟨by rw [lightB_all hbig hq], hE⟩

theorem same_any (w : World) (y z : MsgV) (hm : MsgAt w y) (hn : MsgAt w z) (hL : MsgLt y.1) :
  Calls Tryd.prog 24 #[.agg (msgC y).toArray, .agg (msgC z).toArray] w fun e w' => e = .returned (.bool (sameB y.1 z.1)) ∧ Ext w w' := by
 have hmr := hm.refs
 have hmw := hm.wants
 have hmh := hm.haves
 have hmb := hm.bytes
 have hnr := hn.refs
 have hnw := hn.wants
 have hnh := hn.haves
 have hnb := hn.bytes
 have hl1 := hL.refs
 have hl2 := hL.wants
 have hl3 := hL.haves
 refine calls_of_wpF (args := [.agg (msgC y).toArray, .agg (msgC z).toArray]) Tryd.func24 rfl 122 rfl (Nat.le_of_ble_eq_true rfl) ?_
 intro ρ0 hb
 have T0 : ρ0 0 = (.agg (msgC y).toArray : Value) := hb.get 0
 have T1 : ρ0 1 = (.agg (msgC z).toArray : Value) := hb.get 1
 clear hb
 have hE := Ext.refl w
 refine sk fun K1 hK1 => (wt (oS rfl (Yk.box (cs := (msgC y : List Value).toArray) T0 fun n2 w3 hn4 hb5 hx6 hs7 => ?_)))
 have hE := hE.trans hx6
 have hb8 := hb5; clear hb5
 have hl9 : n2 < w3.heap.size := by omega
 refine oS rfl (Yk.box (cs := (msgC z : List Value).toArray) T1 fun n10 w11 hn12 hb13 hx14 hs15 => ?_)
 have hA16 := Ext.refl w3
 have hea17 := hE
 have hz18 := hE.size
 have hlt19 := lte (bl hb8) hn12
 have hE := hE.trans hx14
 have hb8 := eb hx14 hb8
 have hA16 := hA16.trans hx14
 have hb20 := hb13; clear hb13
 have hl21 : n10 < w11.heap.size := by omega
 refine oA rfl (oZ ?_)
 by_cases hq : y.1.refs.length = z.1.refs.length
 ·refine tN (hK1 _ _ (sk fun K22 hK22 => (sk fun K23 hK23 => (wt (oS rfl (Yk.fieldAt wr14_fo29_2 (vr (PQ n2 0) rfl) (oS rfl (Yk.cell1 wr14_ty22 rfl (vr (PQ n2 2) rfl) (cellAt hb8 (show (msgC y)[2]? = some (y.2.refs : Value) from msg_g2 y)) (oS rfl (Yk.lenRG wr14_ty22 (RG.of (hmr.keep hE) (vr y.2.refs rfl)) (oS rfl (Yk.fieldAt wr14_fo29_2 (vr (PQ n10 0) rfl) (oS rfl (Yk.cell1 wr14_ty22 rfl (vr (PQ n10 2) rfl) (cellAt hb20 (show (msgC z)[2]? = some (z.2.refs : Value) from msg_g2 z)) (oS rfl (Yk.lenRG wr14_ty22 (RG.of (hnr.keep hE) (vr z.2.refs rfl)) (oS rfl (Yk.eqI (a := ((y.1.refs).length : Nat)) (b := ((z.1.refs).length : Nat)) rfl rfl (k_neq _ _ _ _) (oZ (tN (hK23 _ _ (wpF_false (vr (.bool (false)) (congrArg Value.bool (decide_eq_false (fun h => h hq)))) (wpF_skip (tN (hK22 _ _ ?_)))))))))))))))))))))))))
  refine sk fun K24 hK24 => (sk fun K25 hK25 => (wt (oA rfl (oL_ [(0, .agg (msgC y).toArray), (1, .agg (msgC z).toArray), (2, PQ n2 0), (3, PQ n10 0), (4, .bool (false)), (5, NI 0), (12, .bool (false))] ⟨T0, T1, rfl, rfl, rfl, rfl, (congrArg Value.bool (decide_eq_false (fun h => h hq))), trivial⟩ fun ρ26 ⟨T0, T1, T2, T3, T4, T5, T12, _⟩ => (tN (hK25 _ _ (wpF_block (wpF_loop (fun (ρ : Slots) (wz : World) => ∃ i : Nat, ρ 0 = (.agg (msgC y).toArray : Value) ∧ ρ 1 = (.agg (msgC z).toArray : Value) ∧ ρ 2 = (PQ n2 0 : Value) ∧ ρ 3 = (PQ n10 0 : Value) ∧ ρ 12 = (.bool (false) : Value) ∧ ρ 5 = (NI i : Value) ∧ Ext w wz ∧ wz.heap[n2]? = some (.cells (msgC y).toArray 29 (0, 0)) ∧ Ext w3 wz ∧ wz.heap[n10]? = some (.cells (msgC z).toArray 29 (0, 0)) ∧ (i ≤ y.1.refs.length) ∧ (y.1.refs.take i = z.1.refs.take i) ∧ True) (fun ρ _ => y.1.refs.length - (intOf (ρ 5)).toNat) ⟨0, T0, T1, T2, T3, T12, T5, hE, hb8, hA16, hb20, Nat.zero_le _, (by simp), trivial⟩ ?_))))))))
  clear hE hb8 hA16 hb20
  rintro ρ27 w28 ⟨i, T0, T1, T2, T3, T12, T5, hE, hb8, hA16, hb20, hi, hn, -⟩
  have q5 := T5
  by_cases hlt : i < y.1.refs.length
  ·by_cases q1 : y.1.refs.getD i dUpd = z.1.refs.getD i dUpd
   ·refine sk fun K29 hK29 => (sk fun K30 hK30 => (wt (oM rfl (oS rfl (Yk.fieldAt wr14_fo29_2 T2 (oS rfl (Yk.cell1 wr14_ty22 rfl (vr (PQ n2 2) rfl) (cellAt hb8 (show (msgC y)[2]? = some (y.2.refs : Value) from msg_g2 y)) (oS rfl (Yk.lenRG wr14_ty22 (RG.of (hmr.keep hE) (vr y.2.refs rfl)) (oS rfl (Yk.eqI (a := (i : Nat)) (b := ((y.1.refs).length : Nat)) T5 rfl (k_lss _ _ _ _) (oZ (tN (hK30 _ _ (wpF_true (vr (.bool (true)) (congrArg Value.bool (decide_eq_true (hlt)))) (wpF_skip (tN (hK29 _ _ (sk fun K31 hK31 => (wpF_block (sk fun K32 hK32 => ?_)))))))))))))))))))))
    refine wpF_draw [Is (PQ n2 2), Is (y.2.refs), Is (NI i), fun x w' => PR (updC ((y.1.refs).getD (i) dUpd)) x w', Is (.agg (updC ((y.1.refs).getD (i) dUpd)).toArray), Is (PQ n10 2), Is (z.2.refs), Is (NI i), fun x w' => PR (updC ((z.1.refs).getD (i) dUpd)) x w', Is (.agg (updC ((z.1.refs).getD (i) dUpd)).toArray), Is (.bool (false))] (by kernel_rfl) [20, 21, 22, 23, 24, 25, 26, 27, 28, 29, 30] (by kernel_rfl) (by kernel_rfl) (si3 ⟨(fun _ _ _ h k => PR.keep h k), (si4 ⟨(fun _ _ _ h k => PR.keep h k), (si2 trivial)⟩)⟩) ?hs1006 ?hQ1006
    case hs1006 =>
     refine ⟨?_, ?_, ?_, ?_, ?_, ?_, ?_, ?_, ?_, ?_, ?_, trivial⟩
     ·refine stepN rfl fun σ w1 hC h => ?_
      have e2 := (eqo (h 2 (by decide))).trans T2
      exact Yk.fieldAt wr14_fo29_2 e2 ⟨Ext.refl _, rfl⟩
     ·refine stepN rfl fun σ w1 hC h => ?_
      have e20 := eqo (h 20 (by decide))
      exact Yk.cell1 wr14_ty22 rfl e20 (cellAt (eb hC hb8) (show (msgC y)[2]? = some (y.2.refs : Value) from msg_g2 y)) ⟨Ext.refl _, rfl⟩
     ·refine stepN rfl fun σ w1 hC h => ?_
      have e5 := (eqo (h 5 (by decide))).trans T5
      exact Yk.move e5 ⟨Ext.refl _, rfl⟩
     ·refine stepN rfl fun σ w1 hC h => ?_
      have e21 := eqo (h 21 (by decide))
      have e22 := eqo (h 22 (by decide))
      exact Yk.atRG wr14_ty22 wr14_szg67 (by decide) dUpd (RG.of (hmr.keep (hE.trans hC)) e21) e22 (by omega) fun v h => ⟨Ext.refl _, h⟩
     ·refine stepN rfl fun σ w1 hC h => ?_
      have e23 : (fun x w' => PR (updC ((y.1.refs).getD (i) dUpd)) x w') (σ 23) w1 := h 23 (by decide)
      exact Yk.loadPR e23 (wr14_ty67).choose_spec rfl (by rw [upd_len]; exact wr14_isz67) ⟨Ext.refl _, rfl⟩
     ·refine stepN rfl fun σ w1 hC h => ?_
      have e3 := (eqo (h 3 (by decide))).trans T3
      exact Yk.fieldAt wr14_fo29_2 e3 ⟨Ext.refl _, rfl⟩
     ·refine stepN rfl fun σ w1 hC h => ?_
      have e25 := eqo (h 25 (by decide))
      exact Yk.cell1 wr14_ty22 rfl e25 (cellAt (eb hC hb20) (show (msgC z)[2]? = some (z.2.refs : Value) from msg_g2 z)) ⟨Ext.refl _, rfl⟩
     ·refine stepN rfl fun σ w1 hC h => ?_
      have e5 := (eqo (h 5 (by decide))).trans T5
      exact Yk.move e5 ⟨Ext.refl _, rfl⟩
     ·refine stepN rfl fun σ w1 hC h => ?_
      have e26 := eqo (h 26 (by decide))
      have e27 := eqo (h 27 (by decide))
      exact Yk.atRG wr14_ty22 wr14_szg67 (by decide) dUpd (RG.of (hnr.keep (hE.trans hC)) e26) e27 (by omega) fun v h => ⟨Ext.refl _, h⟩
     ·refine stepN rfl fun σ w1 hC h => ?_
      have e28 : (fun x w' => PR (updC ((z.1.refs).getD (i) dUpd)) x w') (σ 28) w1 := h 28 (by decide)
      exact Yk.loadPR e28 (wr14_ty67).choose_spec rfl (by rw [upd_len]; exact wr14_isz67) ⟨Ext.refl _, rfl⟩
     ·refine stepN rfl fun σ w1 hC h => ?_
      have e24 := eqo (h 24 (by decide))
      have e29 := eqo (h 29 (by decide))
      exact Yk.neStr wr14_eg67 e24 e29 (eqUpd _ ((y.1.refs).getD (i) dUpd) ((z.1.refs).getD (i) dUpd)) ⟨Ext.refl _, (congrArg Value.bool (by rw [decide_eq_true q1]; rfl))⟩
    intro ρ33 w34 hx35 he hf
    obtain ⟨-, -, -, -, -, -, -, -, -, -, k30, -⟩ := hf
    obtain ⟨T0, T1, T2, T3, T5, T12, T17, -⟩ := he.hold [(0, _), (1, _), (2, _), (3, _), (5, _), (12, _), (17, _)] ⟨T0, T1, T2, T3, T5, T12, (congrArg Value.bool (decide_eq_true (hlt))), trivial⟩ rfl
    clear he
    have hE := hE.trans hx35
    have hb8 := eb hx35 hb8
    have hA16 := hA16.trans hx35
    have hb20 := eb hx35 hb20
    have T30 : ρ33 30 = .bool (false) := k30
    clear k30
    refine tN (hK32 _ _ (wpF_false T30 (wpF_skip (bN (tN (hK31 _ _ (wt (oM rfl (oS rfl (Yk.bin (xv := NI i) (yv := NI 1) T5 rfl rfl (i64_add _ _ _ (by omega)) (oA rfl (oL_ [(0, .agg (msgC y).toArray), (1, .agg (msgC z).toArray), (2, PQ n2 0), (3, PQ n10 0), (5, NI ((i) + (1))), (12, .bool (false)), (17, .bool (true)), (30, .bool (false))] ⟨T0, T1, T2, T3, rfl, T12, T17, T30, trivial⟩ fun ρ36 ⟨T0, T1, T2, T3, T5, T12, T17, T30, _⟩ => (tN (And.intro ⟨i + 1, T0, T1, T2, T3, T12, T5, hE, hb8, hA16, hb20, by omega, take_same hlt (by omega) hn q1, trivial⟩ ?_))))))))))))))
    show y.1.refs.length - (intOf (ρ36 5)).toNat < y.1.refs.length - (intOf (ρ27 5)).toNat
    rw [T5, q5]
    simp only [intOf, Int.toNat_natCast]; omega
   refine sk fun K37 hK37 => (sk fun K38 hK38 => (wt (oM rfl (oS rfl (Yk.fieldAt wr14_fo29_2 T2 (oS rfl (Yk.cell1 wr14_ty22 rfl (vr (PQ n2 2) rfl) (cellAt hb8 (show (msgC y)[2]? = some (y.2.refs : Value) from msg_g2 y)) (oS rfl (Yk.lenRG wr14_ty22 (RG.of (hmr.keep hE) (vr y.2.refs rfl)) (oS rfl (Yk.eqI (a := (i : Nat)) (b := ((y.1.refs).length : Nat)) T5 rfl (k_lss _ _ _ _) (oZ (tN (hK38 _ _ (wpF_true (vr (.bool (true)) (congrArg Value.bool (decide_eq_true (hlt)))) (wpF_skip (tN (hK37 _ _ (sk fun K39 hK39 => (wpF_block (sk fun K40 hK40 => ?_)))))))))))))))))))))
   refine wpF_draw [Is (PQ n2 2), Is (y.2.refs), Is (NI i), fun x w' => PR (updC ((y.1.refs).getD (i) dUpd)) x w', Is (.agg (updC ((y.1.refs).getD (i) dUpd)).toArray), Is (PQ n10 2), Is (z.2.refs), Is (NI i), fun x w' => PR (updC ((z.1.refs).getD (i) dUpd)) x w', Is (.agg (updC ((z.1.refs).getD (i) dUpd)).toArray), Is (.bool (true))] (by kernel_rfl) [20, 21, 22, 23, 24, 25, 26, 27, 28, 29, 30] (by kernel_rfl) (by kernel_rfl) (si3 ⟨(fun _ _ _ h k => PR.keep h k), (si4 ⟨(fun _ _ _ h k => PR.keep h k), (si2 trivial)⟩)⟩) ?hs2006 ?hQ2006
   case hs2006 =>
    refine ⟨?_, ?_, ?_, ?_, ?_, ?_, ?_, ?_, ?_, ?_, ?_, trivial⟩
    ·refine stepN rfl fun σ w1 hC h => ?_
     have e2 := (eqo (h 2 (by decide))).trans T2
     exact Yk.fieldAt wr14_fo29_2 e2 ⟨Ext.refl _, rfl⟩
    ·refine stepN rfl fun σ w1 hC h => ?_
     have e20 := eqo (h 20 (by decide))
     exact Yk.cell1 wr14_ty22 rfl e20 (cellAt (eb hC hb8) (show (msgC y)[2]? = some (y.2.refs : Value) from msg_g2 y)) ⟨Ext.refl _, rfl⟩
    ·refine stepN rfl fun σ w1 hC h => ?_
     have e5 := (eqo (h 5 (by decide))).trans T5
     exact Yk.move e5 ⟨Ext.refl _, rfl⟩
    ·refine stepN rfl fun σ w1 hC h => ?_
     have e21 := eqo (h 21 (by decide))
     have e22 := eqo (h 22 (by decide))
     exact Yk.atRG wr14_ty22 wr14_szg67 (by decide) dUpd (RG.of (hmr.keep (hE.trans hC)) e21) e22 (by omega) fun v h => ⟨Ext.refl _, h⟩
    ·refine stepN rfl fun σ w1 hC h => ?_
     have e23 : (fun x w' => PR (updC ((y.1.refs).getD (i) dUpd)) x w') (σ 23) w1 := h 23 (by decide)
     exact Yk.loadPR e23 (wr14_ty67).choose_spec rfl (by rw [upd_len]; exact wr14_isz67) ⟨Ext.refl _, rfl⟩
    ·refine stepN rfl fun σ w1 hC h => ?_
     have e3 := (eqo (h 3 (by decide))).trans T3
     exact Yk.fieldAt wr14_fo29_2 e3 ⟨Ext.refl _, rfl⟩
    ·refine stepN rfl fun σ w1 hC h => ?_
     have e25 := eqo (h 25 (by decide))
     exact Yk.cell1 wr14_ty22 rfl e25 (cellAt (eb hC hb20) (show (msgC z)[2]? = some (z.2.refs : Value) from msg_g2 z)) ⟨Ext.refl _, rfl⟩
    ·refine stepN rfl fun σ w1 hC h => ?_
     have e5 := (eqo (h 5 (by decide))).trans T5
     exact Yk.move e5 ⟨Ext.refl _, rfl⟩
    ·refine stepN rfl fun σ w1 hC h => ?_
     have e26 := eqo (h 26 (by decide))
     have e27 := eqo (h 27 (by decide))
     exact Yk.atRG wr14_ty22 wr14_szg67 (by decide) dUpd (RG.of (hnr.keep (hE.trans hC)) e26) e27 (by omega) fun v h => ⟨Ext.refl _, h⟩
    ·refine stepN rfl fun σ w1 hC h => ?_
     have e28 : (fun x w' => PR (updC ((z.1.refs).getD (i) dUpd)) x w') (σ 28) w1 := h 28 (by decide)
     exact Yk.loadPR e28 (wr14_ty67).choose_spec rfl (by rw [upd_len]; exact wr14_isz67) ⟨Ext.refl _, rfl⟩
    ·refine stepN rfl fun σ w1 hC h => ?_
     have e24 := eqo (h 24 (by decide))
     have e29 := eqo (h 29 (by decide))
     exact Yk.neStr wr14_eg67 e24 e29 (eqUpd _ ((y.1.refs).getD (i) dUpd) ((z.1.refs).getD (i) dUpd)) ⟨Ext.refl _, (congrArg Value.bool (by rw [decide_eq_false q1]; rfl))⟩
   intro ρ41 w42 hx43 he hf
   obtain ⟨-, -, -, -, -, -, -, -, -, -, k30, -⟩ := hf
   obtain ⟨T0, T1, T2, T3, T5, T12, T17, -⟩ := he.hold [(0, _), (1, _), (2, _), (3, _), (5, _), (12, _), (17, _)] ⟨T0, T1, T2, T3, T5, T12, (congrArg Value.bool (decide_eq_true (hlt))), trivial⟩ rfl
   clear he
   have hE := hE.trans hx43
   have hb8 := eb hx43 hb8
   have hA16 := hA16.trans hx43
   have hb20 := eb hx43 hb20
   have T30 : ρ41 30 = .bool (true) := k30
   clear k30
   refine tN (hK40 _ _ (wpF_true T30 (sk fun K44 hK44 => (wt (oA rfl (oZ (tN (hK44 _ _ (wpF_ret (inBlockF_ret (thenF_ret (thenF_ret (inBlockF_ret (thenF_ret (postF_ret (fn := Tryd.f24) _ rfl [.bool (false)] (.bool (false)) rfl ⟨rfl, trivial⟩ ?_)))))))))))))))
   exact ⟨by rw [sameB_refs (getD_ne q1)], hE⟩
  refine sk fun K45 hK45 => (sk fun K46 hK46 => (wt (oM rfl (oS rfl (Yk.fieldAt wr14_fo29_2 T2 (oS rfl (Yk.cell1 wr14_ty22 rfl (vr (PQ n2 2) rfl) (cellAt hb8 (show (msgC y)[2]? = some (y.2.refs : Value) from msg_g2 y)) (oS rfl (Yk.lenRG wr14_ty22 (RG.of (hmr.keep hE) (vr y.2.refs rfl)) (oS rfl (Yk.eqI (a := (i : Nat)) (b := ((y.1.refs).length : Nat)) T5 rfl (k_lss _ _ _ _) (oZ (tN (hK46 _ _ (wpF_false (vr (.bool (false)) (congrArg Value.bool (decide_eq_false (hlt)))) (wpF_exit (thenF_exit (thenF_exit (inBlockF_hit (tN (hK24 _ _ (sk fun K47 hK47 => (wt (oS rfl (Yk.fieldAt wr14_fo29_0 T2 ?_)))))))))))))))))))))))))
  refine oS rfl (Yk.cell1 wr14_ty5 rfl (vr (PQ n2 0) rfl) (cellAt hb8 (show (msgC y)[0]? = some (B8 (y.1.kind) : Value) from msg_g0 y)) (oS rfl (Yk.fieldAt wr14_fo29_0 T3 (oS rfl (Yk.cell1 wr14_ty5 rfl (vr (PQ n10 0) rfl) (cellAt hb20 (show (msgC z)[0]? = some (B8 (z.1.kind) : Value) from msg_g0 z)) (oS rfl (Yk.eqI (a := ((y.1.kind).toNat : Nat)) (b := ((z.1.kind).toNat : Nat)) rfl rfl (k_eql _ _ _ _) (oM rfl (opsF_mayV (PQ n2 1) rfl rfl (gT (vr (.bool (decide (((y.1.kind).toNat : Nat) = ((z.1.kind).toNat)))) rfl)) (fun hG48 => Yk.fieldAt wr14_fo29_1 T2 ⟨rfl, rfl⟩) (opsF_mayV (.int .i64 (y.1.session : Int)) rfl rfl (gT (vr (.bool (decide (((y.1.kind).toNat : Nat) = ((z.1.kind).toNat)))) rfl)) (fun hG49 => Yk.cell1 wr14_ty3 rfl (mayT (vr (cond ((decide (((y.1.kind).toNat : Nat) = ((z.1.kind).toNat)))) (PQ n2 1) undef) rfl) hG49) (cellAt hb8 (show (msgC y)[1]? = some (.int .i64 (y.1.session : Int) : Value) from msg_g1 y)) ⟨rfl, rfl⟩) (opsF_mayV (PQ n10 1) rfl rfl (gT (vr (.bool (decide (((y.1.kind).toNat : Nat) = ((z.1.kind).toNat)))) rfl)) (fun hG50 => Yk.fieldAt wr14_fo29_1 T3 ⟨rfl, rfl⟩) (opsF_mayV (.int .i64 (z.1.session : Int)) rfl rfl (gT (vr (.bool (decide (((y.1.kind).toNat : Nat) = ((z.1.kind).toNat)))) rfl)) (fun hG51 => Yk.cell1 wr14_ty3 rfl (mayT (vr (cond ((decide (((y.1.kind).toNat : Nat) = ((z.1.kind).toNat)))) (PQ n10 1) undef) rfl) hG51) (cellAt hb20 (show (msgC z)[1]? = some (.int .i64 (z.1.session : Int) : Value) from msg_g1 z)) ⟨rfl, rfl⟩) (opsF_mayV (.bool (decide ((y.1.session : Int) = (z.1.session : Int)))) rfl rfl (gT (vr (.bool (decide (((y.1.kind).toNat : Nat) = ((z.1.kind).toNat)))) rfl)) (fun hG52 => Yk.eqI (mayT (vr (cond ((decide (((y.1.kind).toNat : Nat) = ((z.1.kind).toNat)))) (.int .i64 (y.1.session : Int)) undef) rfl) hG52) (mayT (vr (cond ((decide (((y.1.kind).toNat : Nat) = ((z.1.kind).toNat)))) (.int .i64 (z.1.session : Int)) undef) rfl) hG52) (z_eql _ .i64 (y.1.session : Int) (z.1.session : Int)) ⟨rfl, rfl⟩) (oS rfl (Yk.pickAndN (vr (.bool (decide (((y.1.kind).toNat : Nat) = ((z.1.kind).toNat)))) rfl) (fun hA => (mayT (vr (cond ((decide (((y.1.kind).toNat : Nat) = ((z.1.kind).toNat)))) (.bool (decide ((y.1.session : Int) = (z.1.session : Int)))) undef) rfl) hA)) (vr (.bool (false)) rfl) fun bb53 hbb54 => (oM rfl (opsF_mayV (PQ n2 3) rfl rfl (gT (vr (.bool (bb53)) rfl)) (fun hG55 => Yk.fieldAt wr14_fo29_3 T2 ⟨rfl, rfl⟩) (opsF_mayV (y.2.wants) rfl rfl (gT (vr (.bool (bb53)) rfl)) (fun hG56 => Yk.cell1 wr14_ty23 rfl (mayT (vr (cond (bb53) (PQ n2 3) undef) rfl) hG56) (cellAt hb8 (show (msgC y)[3]? = some (y.2.wants : Value) from msg_g3 y)) ⟨rfl, rfl⟩) (opsF_mayV (PQ n10 3) rfl rfl (gT (vr (.bool (bb53)) rfl)) (fun hG57 => Yk.fieldAt wr14_fo29_3 T3 ⟨rfl, rfl⟩) (opsF_mayV (z.2.wants) rfl rfl (gT (vr (.bool (bb53)) rfl)) (fun hG58 => Yk.cell1 wr14_ty23 rfl (mayT (vr (cond (bb53) (PQ n10 3) undef) rfl) hG58) (cellAt hb20 (show (msgC z)[3]? = some (z.2.wants : Value) from msg_g3 z)) ⟨rfl, rfl⟩) ?_))))))))))))))))))))
  refine opsF_mayC (.bool (decide (y.1.wants = z.1.wants))) rfl rfl (gT (vr (.bool (bb53)) rfl)) (fun hG59 => Yk.callA2 wr14_pl41 (mayT (vr (cond (bb53) (y.2.wants) undef) rfl) hG59) (mayT (vr (cond (bb53) (z.2.wants) undef) rfl) hG59) ((refSame_any _ y.2.wants z.2.wants y.1.wants z.1.wants (hmw.keep hE) (hnw.keep hE) (by omega)).mono (by rintro e w2 ⟨rfl, hx⟩; exact ⟨_, rfl, rfl, hx⟩))) fun w61 hx62 => ?_
  have hE := hE.trans hx62
  have hb8 := eb hx62 hb8
  have hA16 := hA16.trans hx62
  have hb20 := eb hx62 hb20
  refine oS rfl (Yk.pickAndN (vr (.bool (bb53)) rfl) (fun hA => (mayT (vr (cond (bb53) (.bool (decide (y.1.wants = z.1.wants))) undef) rfl) hA)) (vr (.bool (false)) rfl) fun bb63 hbb64 => (oM rfl (opsF_mayV (PQ n2 4) rfl rfl (gT (vr (.bool (bb63)) rfl)) (fun hG65 => Yk.fieldAt wr14_fo29_4 T2 ⟨rfl, rfl⟩) (opsF_mayV (y.2.haves) rfl rfl (gT (vr (.bool (bb63)) rfl)) (fun hG66 => Yk.cell1 wr14_ty23 rfl (mayT (vr (cond (bb63) (PQ n2 4) undef) rfl) hG66) (cellAt hb8 (show (msgC y)[4]? = some (y.2.haves : Value) from msg_g4 y)) ⟨rfl, rfl⟩) (opsF_mayV (PQ n10 4) rfl rfl (gT (vr (.bool (bb63)) rfl)) (fun hG67 => Yk.fieldAt wr14_fo29_4 T3 ⟨rfl, rfl⟩) (opsF_mayV (z.2.haves) rfl rfl (gT (vr (.bool (bb63)) rfl)) (fun hG68 => Yk.cell1 wr14_ty23 rfl (mayT (vr (cond (bb63) (PQ n10 4) undef) rfl) hG68) (cellAt hb20 (show (msgC z)[4]? = some (z.2.haves : Value) from msg_g4 z)) ⟨rfl, rfl⟩) (opsF_mayC (.bool (decide (y.1.haves = z.1.haves))) rfl rfl (gT (vr (.bool (bb63)) rfl)) (fun hG69 => Yk.callA2 wr14_pl41 (mayT (vr (cond (bb63) (y.2.haves) undef) rfl) hG69) (mayT (vr (cond (bb63) (z.2.haves) undef) rfl) hG69) ((refSame_any _ y.2.haves z.2.haves y.1.haves z.1.haves (hmh.keep hE) (hnh.keep hE) (by omega)).mono (by rintro e w2 ⟨rfl, hx⟩; exact ⟨_, rfl, rfl, hx⟩))) fun w71 hx72 => ?_)))))))
  have hE := hE.trans hx72
  have hb8 := eb hx72 hb8
  have hA16 := hA16.trans hx72
  have hb20 := eb hx72 hb20
  refine oS rfl (Yk.pickAndN (vr (.bool (bb63)) rfl) (fun hA => (mayT (vr (cond (bb63) (.bool (decide (y.1.haves = z.1.haves))) undef) rfl) hA)) (vr (.bool (false)) rfl) fun bb73 hbb74 => (oM rfl (opsF_mayV (PQ n2 5) rfl rfl (gT (vr (.bool (bb73)) rfl)) (fun hG75 => Yk.fieldAt wr14_fo29_5 T2 ⟨rfl, rfl⟩) (opsF_mayV (.int .i64 (y.1.size : Int)) rfl rfl (gT (vr (.bool (bb73)) rfl)) (fun hG76 => Yk.cell1 wr14_ty3 rfl (mayT (vr (cond (bb73) (PQ n2 5) undef) rfl) hG76) (cellAt hb8 (show (msgC y)[5]? = some (.int .i64 (y.1.size : Int) : Value) from msg_g5 y)) ⟨rfl, rfl⟩) (opsF_mayV (PQ n10 5) rfl rfl (gT (vr (.bool (bb73)) rfl)) (fun hG77 => Yk.fieldAt wr14_fo29_5 T3 ⟨rfl, rfl⟩) (opsF_mayV (.int .i64 (z.1.size : Int)) rfl rfl (gT (vr (.bool (bb73)) rfl)) (fun hG78 => Yk.cell1 wr14_ty3 rfl (mayT (vr (cond (bb73) (PQ n10 5) undef) rfl) hG78) (cellAt hb20 (show (msgC z)[5]? = some (.int .i64 (z.1.size : Int) : Value) from msg_g5 z)) ⟨rfl, rfl⟩) (opsF_mayV (.bool (decide ((y.1.size : Int) = (z.1.size : Int)))) rfl rfl (gT (vr (.bool (bb73)) rfl)) (fun hG79 => Yk.eqI (mayT (vr (cond (bb73) (.int .i64 (y.1.size : Int)) undef) rfl) hG79) (mayT (vr (cond (bb73) (.int .i64 (z.1.size : Int)) undef) rfl) hG79) (z_eql _ .i64 (y.1.size : Int) (z.1.size : Int)) ⟨rfl, rfl⟩) (oS rfl (Yk.pickAndN (vr (.bool (bb73)) rfl) (fun hA => (mayT (vr (cond (bb73) (.bool (decide ((y.1.size : Int) = (z.1.size : Int)))) undef) rfl) hA)) (vr (.bool (false)) rfl) fun bb80 hbb81 => (oM rfl (opsF_mayV (PQ n2 6) rfl rfl (gT (vr (.bool (bb80)) rfl)) (fun hG82 => Yk.fieldAt wr14_fo29_6 T2 ⟨rfl, rfl⟩) (opsF_mayV (.int .i64 (y.1.at_ : Int)) rfl rfl (gT (vr (.bool (bb80)) rfl)) (fun hG83 => Yk.cell1 wr14_ty3 rfl (mayT (vr (cond (bb80) (PQ n2 6) undef) rfl) hG83) (cellAt hb8 (show (msgC y)[6]? = some (.int .i64 (y.1.at_ : Int) : Value) from msg_g6 y)) ⟨rfl, rfl⟩) (opsF_mayV (PQ n10 6) rfl rfl (gT (vr (.bool (bb80)) rfl)) (fun hG84 => Yk.fieldAt wr14_fo29_6 T3 ⟨rfl, rfl⟩) (opsF_mayV (.int .i64 (z.1.at_ : Int)) rfl rfl (gT (vr (.bool (bb80)) rfl)) (fun hG85 => Yk.cell1 wr14_ty3 rfl (mayT (vr (cond (bb80) (PQ n10 6) undef) rfl) hG85) (cellAt hb20 (show (msgC z)[6]? = some (.int .i64 (z.1.at_ : Int) : Value) from msg_g6 z)) ⟨rfl, rfl⟩) (opsF_mayV (.bool (decide ((y.1.at_ : Int) = (z.1.at_ : Int)))) rfl rfl (gT (vr (.bool (bb80)) rfl)) (fun hG86 => Yk.eqI (mayT (vr (cond (bb80) (.int .i64 (y.1.at_ : Int)) undef) rfl) hG86) (mayT (vr (cond (bb80) (.int .i64 (z.1.at_ : Int)) undef) rfl) hG86) (z_eql _ .i64 (y.1.at_ : Int) (z.1.at_ : Int)) ⟨rfl, rfl⟩) (oS rfl (Yk.pickAndN (vr (.bool (bb80)) rfl) (fun hA => (mayT (vr (cond (bb80) (.bool (decide ((y.1.at_ : Int) = (z.1.at_ : Int)))) undef) rfl) hA)) (vr (.bool (false)) rfl) fun bb87 hbb88 => (oM rfl ?_))))))))))))))))))
  refine opsF_mayV (PQ n2 7) rfl rfl (gT (vr (.bool (bb87)) rfl)) (fun hG89 => Yk.fieldAt wr14_fo29_7 T2 ⟨rfl, rfl⟩) (opsF_mayV (AB y.1.id.1) rfl rfl (gT (vr (.bool (bb87)) rfl)) (fun hG90 => Yk.loadPR (PR.blk hb8 (msg_m7 y) (msg_n7 y) (mayT (vr (cond (bb87) (PQ n2 7) undef) rfl) hG90)) wr14_ty25 rfl (sizeId_of y.1.id.2) ⟨rfl, rfl⟩) (opsF_mayV (PQ n10 7) rfl rfl (gT (vr (.bool (bb87)) rfl)) (fun hG91 => Yk.fieldAt wr14_fo29_7 T3 ⟨rfl, rfl⟩) (opsF_mayV (AB z.1.id.1) rfl rfl (gT (vr (.bool (bb87)) rfl)) (fun hG92 => Yk.loadPR (PR.blk hb20 (msg_m7 z) (msg_n7 z) (mayT (vr (cond (bb87) (PQ n10 7) undef) rfl) hG92)) wr14_ty25 rfl (sizeId_of z.1.id.2) ⟨rfl, rfl⟩) (opsF_mayV (.bool (decide (y.1.id.1 = z.1.id.1))) rfl rfl (gT (vr (.bool (bb87)) rfl)) (fun hG93 => Yk.eqArr (l1 := y.1.id.1) (l2 := z.1.id.1) wr14_ty25 wr14_ty5 wr14_sz5 wr14_eg25 (mayT (vr (cond (bb87) (AB y.1.id.1) undef) rfl) hG93) (mayT (vr (cond (bb87) (AB z.1.id.1) undef) rfl) hG93) (y.1.id.2) (z.1.id.2) ⟨rfl, rfl⟩) (oS rfl (Yk.pickAndN (vr (.bool (bb87)) rfl) (fun hA => (mayT (vr (cond (bb87) (.bool (decide (y.1.id.1 = z.1.id.1))) undef) rfl) hA)) (vr (.bool (false)) rfl) fun bb94 hbb95 => (oM rfl (opsF_mayV (PQ n2 39) rfl rfl (gT (vr (.bool (bb94)) rfl)) (fun hG96 => Yk.fieldAt wr14_fo29_8 T2 ⟨rfl, rfl⟩) (opsF_mayV (y.2.bytes) rfl rfl (gT (vr (.bool (bb94)) rfl)) (fun hG97 => Yk.cell1 wr14_ty26 rfl (mayT (vr (cond (bb94) (PQ n2 39) undef) rfl) hG97) (cellAt hb8 (show (msgC y)[39]? = some (y.2.bytes : Value) from msg_g8 y)) ⟨rfl, rfl⟩) (opsF_mayV (St (y.1.bytes)) rfl rfl (gT (vr (.bool (bb94)) rfl)) (fun hG98 => Yk.convRB wr14_ty26 wr14_ty5 wr14_ty9 (RB.of (hmb.keep hE) (mayT (vr (cond (bb94) (y.2.bytes) undef) rfl) hG98)) ⟨rfl, rfl⟩) (opsF_mayV (PQ n10 39) rfl rfl (gT (vr (.bool (bb94)) rfl)) (fun hG99 => Yk.fieldAt wr14_fo29_8 T3 ⟨rfl, rfl⟩) (opsF_mayV (z.2.bytes) rfl rfl (gT (vr (.bool (bb94)) rfl)) (fun hG100 => Yk.cell1 wr14_ty26 rfl (mayT (vr (cond (bb94) (PQ n10 39) undef) rfl) hG100) (cellAt hb20 (show (msgC z)[39]? = some (z.2.bytes : Value) from msg_g8 z)) ⟨rfl, rfl⟩) (opsF_mayV (St (z.1.bytes)) rfl rfl (gT (vr (.bool (bb94)) rfl)) (fun hG101 => Yk.convRB wr14_ty26 wr14_ty5 wr14_ty9 (RB.of (hnb.keep hE) (mayT (vr (cond (bb94) (z.2.bytes) undef) rfl) hG101)) ⟨rfl, rfl⟩) (opsF_mayV (.bool (decide ((y.1.bytes : List UInt8) = (z.1.bytes : List UInt8)))) rfl rfl (gT (vr (.bool (bb94)) rfl)) (fun hG102 => Yk.eqSt (l := y.1.bytes) (m := z.1.bytes) (.inl rfl) (mayT (vr (cond (bb94) (St (y.1.bytes)) undef) rfl) hG102) (mayT (vr (cond (bb94) (St (z.1.bytes)) undef) rfl) hG102) (decide ((y.1.bytes : List UInt8) = (z.1.bytes : List UInt8))) rfl ⟨rfl, rfl⟩) (oS rfl (Yk.pickAndN (vr (.bool (bb94)) rfl) (fun hA => (mayT (vr (cond (bb94) (.bool (decide ((y.1.bytes : List UInt8) = (z.1.bytes : List UInt8)))) undef) rfl) hA)) (vr (.bool (false)) rfl) fun bb103 hbb104 => (oM rfl ?_)))))))))))))))))
  refine opsF_mayV (PQ n2 40) rfl rfl (gT (vr (.bool (bb103)) rfl)) (fun hG105 => Yk.fieldAt wr14_fo29_9 T2 ⟨rfl, rfl⟩) (opsF_mayV (St (y.1.name)) rfl rfl (gT (vr (.bool (bb103)) rfl)) (fun hG106 => Yk.cell1 wr14_ty9 rfl (mayT (vr (cond (bb103) (PQ n2 40) undef) rfl) hG106) (cellAt hb8 (show (msgC y)[40]? = some (St (y.1.name) : Value) from msg_g9 y)) ⟨rfl, rfl⟩) (opsF_mayV (PQ n10 40) rfl rfl (gT (vr (.bool (bb103)) rfl)) (fun hG107 => Yk.fieldAt wr14_fo29_9 T3 ⟨rfl, rfl⟩) (opsF_mayV (St (z.1.name)) rfl rfl (gT (vr (.bool (bb103)) rfl)) (fun hG108 => Yk.cell1 wr14_ty9 rfl (mayT (vr (cond (bb103) (PQ n10 40) undef) rfl) hG108) (cellAt hb20 (show (msgC z)[40]? = some (St (z.1.name) : Value) from msg_g9 z)) ⟨rfl, rfl⟩) (opsF_mayV (.bool (decide ((y.1.name : List UInt8) = (z.1.name : List UInt8)))) rfl rfl (gT (vr (.bool (bb103)) rfl)) (fun hG109 => Yk.eqSt (l := y.1.name) (m := z.1.name) (.inl rfl) (mayT (vr (cond (bb103) (St (y.1.name)) undef) rfl) hG109) (mayT (vr (cond (bb103) (St (z.1.name)) undef) rfl) hG109) (decide ((y.1.name : List UInt8) = (z.1.name : List UInt8))) rfl ⟨rfl, rfl⟩) (oS rfl (Yk.pickAndN (vr (.bool (bb103)) rfl) (fun hA => (mayT (vr (cond (bb103) (.bool (decide ((y.1.name : List UInt8) = (z.1.name : List UInt8)))) undef) rfl) hA)) (vr (.bool (false)) rfl) fun bb110 hbb111 => (oM rfl (opsF_mayV (PQ n2 41) rfl rfl (gT (vr (.bool (bb110)) rfl)) (fun hG112 => Yk.fieldAt wr14_fo29_10 T2 ⟨rfl, rfl⟩) (opsF_mayV (AB y.1.old.1) rfl rfl (gT (vr (.bool (bb110)) rfl)) (fun hG113 => Yk.loadPR (PR.blk hb8 (msg_m10 y) (msg_n10 y) (mayT (vr (cond (bb110) (PQ n2 41) undef) rfl) hG113)) wr14_ty25 rfl (sizeId_of y.1.old.2) ⟨rfl, rfl⟩) (opsF_mayV (PQ n10 41) rfl rfl (gT (vr (.bool (bb110)) rfl)) (fun hG114 => Yk.fieldAt wr14_fo29_10 T3 ⟨rfl, rfl⟩) (opsF_mayV (AB z.1.old.1) rfl rfl (gT (vr (.bool (bb110)) rfl)) (fun hG115 => Yk.loadPR (PR.blk hb20 (msg_m10 z) (msg_n10 z) (mayT (vr (cond (bb110) (PQ n10 41) undef) rfl) hG115)) wr14_ty25 rfl (sizeId_of z.1.old.2) ⟨rfl, rfl⟩) (opsF_mayV (.bool (decide (y.1.old.1 = z.1.old.1))) rfl rfl (gT (vr (.bool (bb110)) rfl)) (fun hG116 => Yk.eqArr (l1 := y.1.old.1) (l2 := z.1.old.1) wr14_ty25 wr14_ty5 wr14_sz5 wr14_eg25 (mayT (vr (cond (bb110) (AB y.1.old.1) undef) rfl) hG116) (mayT (vr (cond (bb110) (AB z.1.old.1) undef) rfl) hG116) (y.1.old.2) (z.1.old.2) ⟨rfl, rfl⟩) (oS rfl (Yk.pickAndN (vr (.bool (bb110)) rfl) (fun hA => (mayT (vr (cond (bb110) (.bool (decide (y.1.old.1 = z.1.old.1))) undef) rfl) hA)) (vr (.bool (false)) rfl) fun bb117 hbb118 => (oM rfl (opsF_mayV (PQ n2 73) rfl rfl (gT (vr (.bool (bb117)) rfl)) (fun hG119 => Yk.fieldAt wr14_fo29_11 T2 ⟨rfl, rfl⟩) (opsF_mayV (AB y.1.new.1) rfl rfl (gT (vr (.bool (bb117)) rfl)) (fun hG120 => Yk.loadPR (PR.blk hb8 (msg_m11 y) (msg_n11 y) (mayT (vr (cond (bb117) (PQ n2 73) undef) rfl) hG120)) wr14_ty25 rfl (sizeId_of y.1.new.2) ⟨rfl, rfl⟩) ?_)))))))))))))))))
  refine opsF_mayV (PQ n10 73) rfl rfl (gT (vr (.bool (bb117)) rfl)) (fun hG121 => Yk.fieldAt wr14_fo29_11 T3 ⟨rfl, rfl⟩) (opsF_mayV (AB z.1.new.1) rfl rfl (gT (vr (.bool (bb117)) rfl)) (fun hG122 => Yk.loadPR (PR.blk hb20 (msg_m11 z) (msg_n11 z) (mayT (vr (cond (bb117) (PQ n10 73) undef) rfl) hG122)) wr14_ty25 rfl (sizeId_of z.1.new.2) ⟨rfl, rfl⟩) (opsF_mayV (.bool (decide (y.1.new.1 = z.1.new.1))) rfl rfl (gT (vr (.bool (bb117)) rfl)) (fun hG123 => Yk.eqArr (l1 := y.1.new.1) (l2 := z.1.new.1) wr14_ty25 wr14_ty5 wr14_sz5 wr14_eg25 (mayT (vr (cond (bb117) (AB y.1.new.1) undef) rfl) hG123) (mayT (vr (cond (bb117) (AB z.1.new.1) undef) rfl) hG123) (y.1.new.2) (z.1.new.2) ⟨rfl, rfl⟩) (oS rfl (Yk.pickAndN (vr (.bool (bb117)) rfl) (fun hA => (mayT (vr (cond (bb117) (.bool (decide (y.1.new.1 = z.1.new.1))) undef) rfl) hA)) (vr (.bool (false)) rfl) fun bb124 hbb125 => (oM rfl (opsF_mayV (PQ n2 105) rfl rfl (gT (vr (.bool (bb124)) rfl)) (fun hG126 => Yk.fieldAt wr14_fo29_12 T2 ⟨rfl, rfl⟩) (opsF_mayV (.bool (y.1.force)) rfl rfl (gT (vr (.bool (bb124)) rfl)) (fun hG127 => Yk.cell1 wr14_ty4 rfl (mayT (vr (cond (bb124) (PQ n2 105) undef) rfl) hG127) (cellAt hb8 (show (msgC y)[105]? = some (.bool (y.1.force) : Value) from msg_g12 y)) ⟨rfl, rfl⟩) (opsF_mayV (PQ n10 105) rfl rfl (gT (vr (.bool (bb124)) rfl)) (fun hG128 => Yk.fieldAt wr14_fo29_12 T3 ⟨rfl, rfl⟩) (opsF_mayV (.bool (z.1.force)) rfl rfl (gT (vr (.bool (bb124)) rfl)) (fun hG129 => Yk.cell1 wr14_ty4 rfl (mayT (vr (cond (bb124) (PQ n10 105) undef) rfl) hG129) (cellAt hb20 (show (msgC z)[105]? = some (.bool (z.1.force) : Value) from msg_g12 z)) ⟨rfl, rfl⟩) (opsF_mayV (.bool ((y.1.force) == (z.1.force))) rfl rfl (gT (vr (.bool (bb124)) rfl)) (fun hG130 => Yk.eqBool (a := y.1.force) (b := z.1.force) wr14_ty4 (mayT (vr (cond (bb124) (.bool (y.1.force)) undef) rfl) hG130) (mayT (vr (cond (bb124) (.bool (z.1.force)) undef) rfl) hG130) ⟨rfl, rfl⟩) (oS rfl (Yk.pickAndN (vr (.bool (bb124)) rfl) (fun hA => (mayT (vr (cond (bb124) (.bool ((y.1.force) == (z.1.force))) undef) rfl) hA)) (vr (.bool (false)) rfl) fun bb131 hbb132 => (oM rfl (opsF_mayV (PQ n2 106) rfl rfl (gT (vr (.bool (bb131)) rfl)) (fun hG133 => Yk.fieldAt wr14_fo29_13 T2 ⟨rfl, rfl⟩) (opsF_mayV (.int .i64 (y.1.code : Int)) rfl rfl (gT (vr (.bool (bb131)) rfl)) (fun hG134 => Yk.cell1 wr14_ty27 rfl (mayT (vr (cond (bb131) (PQ n2 106) undef) rfl) hG134) (cellAt hb8 (show (msgC y)[106]? = some (.int .i64 (y.1.code : Int) : Value) from msg_g13 y)) ⟨rfl, rfl⟩) (opsF_mayV (PQ n10 106) rfl rfl (gT (vr (.bool (bb131)) rfl)) (fun hG135 => Yk.fieldAt wr14_fo29_13 T3 ⟨rfl, rfl⟩) (opsF_mayV (.int .i64 (z.1.code : Int)) rfl rfl (gT (vr (.bool (bb131)) rfl)) (fun hG136 => Yk.cell1 wr14_ty27 rfl (mayT (vr (cond (bb131) (PQ n10 106) undef) rfl) hG136) (cellAt hb20 (show (msgC z)[106]? = some (.int .i64 (z.1.code : Int) : Value) from msg_g13 z)) ⟨rfl, rfl⟩) ?_)))))))))))))))))
  refine opsF_mayV (.bool (decide ((y.1.code : Int) = (z.1.code : Int)))) rfl rfl (gT (vr (.bool (bb131)) rfl)) (fun hG137 => Yk.eqI (mayT (vr (cond (bb131) (.int .i64 (y.1.code : Int)) undef) rfl) hG137) (mayT (vr (cond (bb131) (.int .i64 (z.1.code : Int)) undef) rfl) hG137) (z_eql _ .i64 (y.1.code : Int) (z.1.code : Int)) ⟨rfl, rfl⟩) (oS rfl (Yk.pickAndN (vr (.bool (bb131)) rfl) (fun hA => (mayT (vr (cond (bb131) (.bool (decide ((y.1.code : Int) = (z.1.code : Int)))) undef) rfl) hA)) (vr (.bool (false)) rfl) fun bb138 hbb139 => (oA rfl (oL_ [(0, .agg (msgC y).toArray), (1, .agg (msgC z).toArray), (2, PQ n2 0), (3, PQ n10 0), (4, .bool (bb138)), (5, NI i), (12, .bool (false)), (17, .bool (false))] ⟨T0, T1, T2, T3, rfl, T5, T12, (congrArg Value.bool (decide_eq_false (hlt))), trivial⟩ fun ρ140 ⟨T0, T1, T2, T3, T4, T5, T12, T17, _⟩ => (tN (hK47 _ _ (wpF_ret (postF_ret (fn := Tryd.f24) _ rfl [.bool (bb138)] (.bool (bb138)) rfl ⟨T4, trivial⟩ ?_))))))))
  subst hbb54 hbb64 hbb74 hbb81 hbb88 hbb95 hbb104 hbb111 hbb118 hbb125 hbb132 hbb139
  rw [show i = y.1.refs.length by omega, List.take_length, show y.1.refs.length = z.1.refs.length by omega, List.take_length] at hn
  exact ⟨by rw [← sameB_parts hn]; rfl, hE⟩
 refine tN (hK1 _ _ (sk fun K141 hK141 => (sk fun K142 hK142 => (wt (oS rfl (Yk.fieldAt wr14_fo29_2 (vr (PQ n2 0) rfl) (oS rfl (Yk.cell1 wr14_ty22 rfl (vr (PQ n2 2) rfl) (cellAt hb8 (show (msgC y)[2]? = some (y.2.refs : Value) from msg_g2 y)) (oS rfl (Yk.lenRG wr14_ty22 (RG.of (hmr.keep hE) (vr y.2.refs rfl)) (oS rfl (Yk.fieldAt wr14_fo29_2 (vr (PQ n10 0) rfl) (oS rfl (Yk.cell1 wr14_ty22 rfl (vr (PQ n10 2) rfl) (cellAt hb20 (show (msgC z)[2]? = some (z.2.refs : Value) from msg_g2 z)) (oS rfl (Yk.lenRG wr14_ty22 (RG.of (hnr.keep hE) (vr z.2.refs rfl)) (oS rfl (Yk.eqI (a := ((y.1.refs).length : Nat)) (b := ((z.1.refs).length : Nat)) rfl rfl (k_neq _ _ _ _) (oZ (tN (hK142 _ _ (wpF_true (vr (.bool (true)) (congrArg Value.bool (decide_eq_true (hq)))) (sk fun K143 hK143 => (wt ?_))))))))))))))))))))))))
 refine oA rfl (oZ (tN (hK143 _ _ (wpF_ret (thenF_ret (postF_ret (fn := Tryd.f24) _ rfl [.bool (false)] (.bool (false)) rfl ⟨rfl, trivial⟩ ?_))))))
 exact ⟨by rw [sameB_refs (fun e => hq (by rw [e]))], hE⟩

theorem awake25 (w : World) :
  Calls Tryd.prog 21 #[] w fun e w' => e = .returned (.bool true) ∧ Ext w w' := by
 refine calls_of_wpF (args := []) Tryd.func21 rfl 49 rfl (Nat.le_of_ble_eq_true rfl) ?_
 intro ρ0 hb
 clear hb
 have hE := Ext.refl w
 refine sk fun K1 hK1 => (wt (oA rfl (oZ (tN (hK1 _ _ (sk fun K2 hK2 => (wt (oS rfl (Yk.build2 (vr (B8 (1)) rfl) (vr (NI 5) rfl) (fun w => wr14_bs29_0_1 1 ((5 : Nat) : Int) w) (oS rfl (Yk.callA1 wr14_pl16 (vr (.agg (msgC ((⟨1, ((5 : Nat) : Int), [], [], [], 0, 0, zid, [], [], zid, zid, false, 0⟩, ⟨(Value.slice none 0 0), (Value.slice none 0 0), (Value.slice none 0 0), (Value.slice none 0 0)⟩) : MsgV)).toArray) rfl) ((encode_m (X := ((⟨1, ((5 : Nat) : Int), [], [], [], 0, 0, zid, [], [], zid, zid, false, 0⟩, ⟨(Value.slice none 0 0), (Value.slice none 0 0), (Value.slice none 0 0), (Value.slice none 0 0)⟩) : MsgV)) rfl rfl ⟨rfl, rfl, rfl, rfl, rfl⟩ right_m1 enc_m1).mono ?_))))))))))))
 rintro e w6 ⟨v3, rfl, hr4, hx5⟩
 refine ⟨_, rfl, ?_⟩
 have hE := hE.trans hx5
 refine oM rfl (oS rfl (Yk.extract (vs := [v3, NI 0]) (vr (.tuple #[v3, NI 0]) rfl) (show _ = some (v3 : Value) from rfl) (oS rfl (Yk.extract (vs := [v3, NI 0]) (vr (.tuple #[v3, NI 0]) rfl) (show _ = some (NI 0 : Value) from rfl) (oA rfl (oA rfl (oZ (tN (hK2 _ _ (sk fun K7 hK7 => (wt (oS rfl (Yk.build3 (vr (B8 (8)) rfl) (vr (NI 300) rfl) (vr (NI 13) rfl) (fun w => wr14_bs29_0_1_13 8 ((300 : Nat) : Int) ((13 : Nat) : Int) w) (oS rfl (Yk.callA1 wr14_pl16 (vr (.agg (msgC ((⟨8, ((300 : Nat) : Int), [], [], [], 0, 0, zid, [], [], zid, zid, false, ((13 : Nat) : Int)⟩, ⟨(Value.slice none 0 0), (Value.slice none 0 0), (Value.slice none 0 0), (Value.slice none 0 0)⟩) : MsgV)).toArray) rfl) ((encode_m (X := ((⟨8, ((300 : Nat) : Int), [], [], [], 0, 0, zid, [], [], zid, zid, false, ((13 : Nat) : Int)⟩, ⟨(Value.slice none 0 0), (Value.slice none 0 0), (Value.slice none 0 0), (Value.slice none 0 0)⟩) : MsgV)) rfl rfl ⟨rfl, rfl, rfl, rfl, rfl⟩ right_m8 enc_m8).mono ?_))))))))))))))))
 rintro e w11 ⟨v8, rfl, hr9, hx10⟩
 refine ⟨_, rfl, ?_⟩
 have hE := hE.trans hx10
 have hr4 := hr4.keep hx10
 refine oM rfl (oS rfl (Yk.extract (vs := [v8, NI 0]) (vr (.tuple #[v8, NI 0]) rfl) (show _ = some (v8 : Value) from rfl) (oS rfl (Yk.extract (vs := [v8, NI 0]) (vr (.tuple #[v8, NI 0]) rfl) (show _ = some (NI 0 : Value) from rfl) (oA rfl (oA rfl (oZ (tN (hK7 _ _ (sk fun K12 hK12 => (sk fun K13 hK13 => (wt (oM rfl (oS rfl (Yk.lenRB wr14_ty26 (RB.of hr9 (vr v8 rfl)) (oS rfl (Yk.eqI (a := ((([8, 172, 2, 13] : List UInt8) : List UInt8).length : Nat)) (b := (0 : Nat)) rfl rfl (k_eql _ _ _ _) (oZ (tN (hK13 _ _ (wpF_false (vr (.bool (false)) (congrArg Value.bool (decide_eq_false (by decide)))) ?_)))))))))))))))))))))
 refine wpF_skip (tN (hK12 _ _ (sk fun K14 hK14 => (wt (oM rfl (oM rfl (oS rfl (Yk.lenRB wr14_ty26 (RB.of hr9 (vr v8 rfl)) (oS rfl (Yk.bin (xv := NI ((([8, 172, 2, 13] : List UInt8) : List UInt8).length)) (yv := NI 1) rfl rfl rfl (i64_sub _ _ _ (by decide) (by decide)) (oS rfl (Yk.sliceHi (xs := ([8, 172, 2, 13] : List UInt8)) (n := ((([8, 172, 2, 13] : List UInt8) : List UInt8).length) - (1)) wr14_ty26 wr14_sz5 (vr v8 rfl) hr9 (vr (NI (((([8, 172, 2, 13] : List UInt8) : List UInt8).length) - (1))) rfl) (by decide) fun v15 hr16 ha17 => (oS rfl (Yk.callA1 wr14_pl22 (vr v15 rfl) ((decode_all _ v15 ((([8, 172, 2, 13] : List UInt8) : List UInt8).take (((([8, 172, 2, 13] : List UInt8) : List UInt8).length) - (1))) hr16 (by decide)).mono ?_)))))))))))))))
 rintro e w19 ⟨X, c, rfl, hX, hd, hx18⟩
 refine ⟨_, rfl, ?_⟩
 have hE := hE.trans hx18
 have hr4 := hr4.keep hx18
 have hr9 := hr9.keep hx18
 have hr16 := hr16.keep hx18
 have hXr := hX.refs
 have hXw := hX.wants
 have hXh := hX.haves
 have hXb := hX.bytes
 rw [show ([8, 172, 2, 13] : List UInt8).length - 1 = 3 from rfl, dec_m8] at hd
 obtain ⟨hc6, -⟩ := hd
 subst hc6
 refine oM rfl (oS rfl (Yk.extract (vs := [.agg (msgC X).toArray, NI 6]) (vr (.tuple #[.agg (msgC X).toArray, NI 6]) rfl) (show _ = some (.agg (msgC X).toArray : Value) from rfl) (oS rfl (Yk.extract (vs := [.agg (msgC X).toArray, NI 6]) (vr (.tuple #[.agg (msgC X).toArray, NI 6]) rfl) (show _ = some (NI 6 : Value) from rfl) (oS rfl (Yk.alloc (cs := (msgC ((⟨0, 0, [], [], [], 0, 0, zid, [], [], zid, zid, false, 0⟩, ⟨.slice none 0 0, .slice none 0 0, .slice none 0 0, .slice none 0 0⟩) : MsgV)).toArray) wr14_al29 fun n20 w21 hn22 hb23 hx24 hs25 => ?_))))))
 have hA26 := Ext.refl w19
 have hea27 := hE
 have hz28 := hE.size
 have hE := hE.trans hx24
 have hA26 := hA26.trans hx24
 have hb29 := hb23; clear hb23
 have hl30 : n20 < w21.heap.size := by omega
 refine oS rfl (Yk.storeAll (vr (PQ n20 0) rfl) (vr (.agg (msgC X).toArray) rfl) hb29 (by simp only [List.size_toArray, msg_len]) (st_isz (msg_len _) wr14_isz29) (msg_one (x := X) (RG.one (hXr.keep hA26)).2 (RG.one (hXw.keep hA26)).2 (RG.one (hXh.keep hA26)).2 (RB.one (hXb.keep hA26)).2) fun w31 hb32 hg33 hs34 => ?_)
 have hE := row_fresh hE hg33 (Nat.le_trans hz28 (by omega))
 have hA26 := row_fresh hA26 hg33 (Nat.le_trans (Nat.le_refl _) (by omega))
 clear hb29
 have hb29 : w31.heap[n20]? = some (.cells (msgC X).toArray 29 (0, 0)) := hb32; clear hb32
 have hl35 := bl hb29
 refine oA rfl (oZ (tN (hK14 _ _ (sk fun K36 hK36 => (wt (oM rfl (oS rfl (Yk.eqI (a := (0 : Nat)) (b := (0 : Nat)) rfl rfl (k_eql _ _ _ _) (oM rfl (oY (d := 31) rfl rfl (vr (.bool (true)) (congrArg Value.bool (decide_eq_true (rfl)))) (Yk.move (vr v3 rfl) (oY (d := 31) rfl rfl (vr (.bool (true)) (congrArg Value.bool (decide_eq_true (rfl)))) (Yk.convRB wr14_ty26 wr14_ty5 wr14_ty9 (RB.of (hr4.keep hA26) (vr v3 rfl)) (oY (d := 31) rfl rfl (vr (.bool (true)) (congrArg Value.bool (decide_eq_true (rfl)))) (Yk.eqSt (l := ([1, 5] : List UInt8)) (m := ([1, 5] : List UInt8)) (.inl rfl) (vr (St (([1, 5] : List UInt8))) rfl) (vr (St (([1, 5] : List UInt8))) rfl) (decide (([1, 5] : List UInt8) = (([1, 5] : List UInt8) : List UInt8))) rfl (oS rfl (Yk.pickT (vr (.bool (true)) (congrArg Value.bool (decide_eq_true (rfl)))) (vr (.bool (true)) (congrArg Value.bool (decide_eq_true (rfl)))) (oM rfl (oY (d := 36) rfl rfl (vr (.bool (true)) rfl) (Yk.move (vr (NI 0) rfl) (oY (d := 36) rfl rfl (vr (.bool (true)) rfl) (Yk.eqI (a := (0 : Nat)) (b := (0 : Nat)) rfl rfl (k_eql _ _ _ _) (oS rfl (Yk.pickT (vr (.bool (true)) rfl) (vr (.bool (true)) (congrArg Value.bool (decide_eq_true (rfl)))) ?_))))))))))))))))))))))))
 refine oM rfl (oY (d := 40) rfl rfl (vr (.bool (true)) rfl) (Yk.move (vr v8 rfl) (oY (d := 40) rfl rfl (vr (.bool (true)) rfl) (Yk.convRB wr14_ty26 wr14_ty5 wr14_ty9 (RB.of (hr9.keep hA26) (vr v8 rfl)) (oY (d := 40) rfl rfl (vr (.bool (true)) rfl) (Yk.eqSt (l := ([8, 172, 2, 13] : List UInt8)) (m := ([8, 172, 2, 13] : List UInt8)) (.inl rfl) (vr (St (([8, 172, 2, 13] : List UInt8))) rfl) (vr (St (([8, 172, 2, 13] : List UInt8))) rfl) (decide (([8, 172, 2, 13] : List UInt8) = (([8, 172, 2, 13] : List UInt8) : List UInt8))) rfl (oS rfl (Yk.pickT (vr (.bool (true)) rfl) (vr (.bool (true)) (congrArg Value.bool (decide_eq_true (rfl)))) (oM rfl (oY (d := 45) rfl rfl (vr (.bool (true)) rfl) (Yk.move (vr (NI 6) rfl) (oY (d := 45) rfl rfl (vr (.bool (true)) rfl) (Yk.eqI (a := (6 : Nat)) (b := (6 : Nat)) rfl rfl (k_eql _ _ _ _) (oS rfl (Yk.pickT (vr (.bool (true)) rfl) (vr (.bool (true)) (congrArg Value.bool (decide_eq_true (rfl)))) (oA rfl (oL_ [(0, .bool (true)), (1, v3), (2, NI 0), (3, v8), (4, NI 0), (6, NI 6), (19, .bool (false))] ⟨rfl, rfl, rfl, rfl, rfl, rfl, (congrArg Value.bool (decide_eq_false (by decide))), trivial⟩ fun ρ37 ⟨T0, T1, T2, T3, T4, T6, T19, _⟩ => (tN (hK36 _ _ (wpF_ret (postF_ret (fn := Tryd.f21) _ rfl [.bool (true)] (.bool (true)) rfl ⟨T0, trivial⟩ ?_)))))))))))))))))))))
 exact ⟨rfl, hE⟩
open Go.RowKit
set_option maxRecDepth 100000
theorem u64_nat (n : Int) : ∃ C : Nat, IntKind.u64.wrap n = (C : Int) := by
 refine ⟨(IntKind.u64.wrap n).toNat, ?_⟩
 have : 0 ≤ IntKind.u64.wrap n := by
  simp only [IntKind.wrap, IntKind.bits, IntKind.signed]
  simp
  omega
 omega
theorem encode_yes (w : World) (x : MsgV) (hm : MsgAt w x) (hL : MsgLt x.1) (hR : rightB x.1 = true) :
  Calls Tryd.prog 16 #[.agg (msgC x).toArray] w fun e w' => ∃ v, e = .returned (.tuple #[v, NI 0]) ∧ RB w' v (encB x.1) ∧ Ext w w' :=
 (encode_any w x hm hL).mono fun e w' h => by
  obtain ⟨v, rfl, h1, h2⟩ := h
  rw [if_pos hR] at h1
  exact ⟨v, by rw [if_pos hR], h1, h2⟩
theorem encode_no (w : World) (x : MsgV) (hm : MsgAt w x) (hL : MsgLt x.1) (hR : rightB x.1 = false) :
  Calls Tryd.prog 16 #[.agg (msgC x).toArray] w fun e w' => ∃ v, e = .returned (.tuple #[v, NI 1]) ∧ RB w' v [] ∧ Ext w w' :=
 (encode_any w x hm hL).mono fun e w' h => by
  obtain ⟨v, rfl, h1, h2⟩ := h
  rw [if_neg (by rw [hR]; decide)] at h1
  exact ⟨v, by rw [if_neg (by rw [hR]; decide)], h1, h2⟩
theorem same_true (w : World) (y z : MsgV) (hm : MsgAt w y) (hn : MsgAt w z) (hL : MsgLt y.1) (h : y.1 = z.1) :
  Calls Tryd.prog 24 #[.agg (msgC y).toArray, .agg (msgC z).toArray] w fun e w' => e = .returned (.bool true) ∧ Ext w w' :=
 (same_any w y z hm hn hL).mono fun e w' k => by rw [h, sameB_self] at k; exact k
theorem wr15_ty29 : ∃ fs, Tryd.prog.underlying 29 = some (.struct fs) := struct_of (by kernel_rfl)
theorem wr15_isz29 : (Tryd.prog.info? 29).map (·.size) = some 107 := by kernel_rfl
theorem wr15_pl15 : Plain Tryd.prog 15 := fun _ _ => by kernel_rfl
theorem wr15_ty26 : Tryd.prog.underlying 26 = some (.slice 5) := by kernel_rfl
theorem wr15_pl16 : Plain Tryd.prog 16 := fun _ _ => by kernel_rfl
theorem wr15_pl21 : Plain Tryd.prog 21 := fun _ _ => by kernel_rfl
theorem wr15_ty3 : Tryd.prog.underlying 3 = some (.int .i64) := by kernel_rfl
theorem wr15_ty44 : Tryd.prog.underlying 44 = some (.int .u64) := by kernel_rfl
theorem wr15_sz5 : ∀ w' : World, (sizeOf 5).run Tryd.prog w' = .ok 1 w' := fun _ => by kernel_rfl
theorem wr15_pl22 : Plain Tryd.prog 22 := fun _ _ => by kernel_rfl
theorem wr15_al29 {d : Option Tmp} {ty : TypeId} {pos : String} {af : Array Edge} {gd : Option (Nat × Bool)} (σ : Operand → Value) (w : World) : (execOp σ ⟨d, .alloc 29, ty, pos, af, gd⟩).run Tryd.prog w = .ok (.value (PQ w.heap.size 0)) (w.alloc (.cells (msgC ((⟨0, 0, [], [], [], 0, 0, zid, [], [], zid, zid, false, 0⟩, ⟨.slice none 0 0, .slice none 0 0, .slice none 0 0, .slice none 0 0⟩) : MsgV)).toArray 29)) := by kernel_rfl
theorem wr15_l0_26 (w : World) : (Instr.buildSlice 26 0 #[]).run Tryd.prog w = .ok (.slice (some ⟨w.heap.size, 0, none⟩) 0 0) (w.alloc (.cells #[] 5)) := by kernel_rfl
theorem wr15_inf5 : (Tryd.prog.info? 5).map (fun i => (i.zero, i.size, i.bytes)) = some (some (.int .u8 0), 1, 1) := by kernel_rfl
theorem wr15_ty4 : Tryd.prog.underlying 4 = some (.bool) := by kernel_rfl
theorem wr15_pl24 : Plain Tryd.prog 24 := fun _ _ => by kernel_rfl
theorem wr15_ty5 : Tryd.prog.underlying 5 = some (.int .u8) := by kernel_rfl
theorem wr15_ty9 : Tryd.prog.underlying 9 = some (.string) := by kernel_rfl
set_option maxHeartbeats 1600000
theorem wireCut_walk (w : World) (x : MsgV) (hm : MsgAt w x) (cut : Int) (vm : Value) (more : Bs) (hrm : RB w vm more) :
  Calls Tryd.prog 6 #[.agg (msgC x).toArray, .int .i64 cut, vm] w fun e w' => e = .returned (.bool true) ∧ Ext w w' := by
 have hmr := hm.refs
 have hmw := hm.wants
 have hmh := hm.haves
 have hmb := hm.bytes
 obtain ⟨C, hcut⟩ := u64_nat cut
 refine calls_of_wpF (args := [.agg (msgC x).toArray, .int .i64 (cut : Int), vm]) Tryd.func6 rfl 74 rfl (Nat.le_of_ble_eq_true rfl) ?_
 intro ρ0 hb
 have T0 : ρ0 0 = (.agg (msgC x).toArray : Value) := hb.get 0
 have T1 : ρ0 1 = (.int .i64 (cut : Int) : Value) := hb.get 1
 have T2 : ρ0 2 = (vm : Value) := hb.get 2
 clear hb
 have hE := Ext.refl w
 refine sk fun K1 hK1 => (wt (oS rfl (Yk.box (cs := (msgC x : List Value).toArray) T0 fun n2 w3 hn4 hb5 hx6 hs7 => ?_)))
 have hE := hE.trans hx6
 have hb8 := hb5; clear hb5
 have hl9 : n2 < w3.heap.size := by omega
 refine oA rfl (oZ (tN (hK1 _ _ (sk fun K10 hK10 => (sk fun K11 hK11 => (wt (oS rfl (Yk.loadAll (vr (PQ n2 0) rfl) hb8 (wr15_ty29).choose_spec rfl (st_isz (msg_len x) wr15_isz29) (oS rfl (Yk.callA1 wr15_pl15 (vr (.agg (msgC x).toArray) rfl) ((light_any _ x (MsgAt.mk (hmr.keep hE) (hmw.keep hE) (hmh.keep hE) (hmb.keep hE))).mono ?_)))))))))))
 rintro e w13 ⟨rfl, hx12⟩
 refine ⟨_, rfl, ?_⟩
 have hE := hE.trans hx12
 have hb8 := eb hx12 hb8
 refine oS rfl (Yk.notB (vr (.bool (lightB x.1)) rfl) (oM rfl (opsF_mayV (vm) rfl rfl (gF (vr (.bool (!(lightB x.1))) rfl)) (fun hG14 => Yk.move T2 ⟨rfl, rfl⟩) (opsF_mayV (NI more.length) rfl rfl (gF (vr (.bool (!(lightB x.1))) rfl)) (fun hG15 => Yk.lenRB wr15_ty26 (RB.of (hrm.keep hE) (mayT (vr (cond (!(!(lightB x.1))) (vm) undef) rfl) hG15)) ⟨rfl, rfl⟩) (opsF_mayV (.bool (decide ((100) < (more.length)))) rfl rfl (gF (vr (.bool (!(lightB x.1))) rfl)) (fun hG16 => Yk.eqI (a := ((more.length : Nat) : Int)) (b := ((100 : Nat) : Int)) (mayT (vr (cond (!(!(lightB x.1))) (NI more.length) undef) rfl) hG16) (vr (NI 100) rfl) (k_gtr _ .i64 (more.length) (100)) ⟨rfl, rfl⟩) (oS rfl (Yk.pickOrN (vr (.bool (!(lightB x.1))) rfl) (vr (.bool (true)) rfl) (fun hA => (mayT (vr (cond (!(!(lightB x.1))) (.bool (decide ((100) < (more.length)))) undef) rfl) (not_i hA))) fun bb17 hbb18 => (oZ (tN (hK11 _ _ ?_))))))))))
 refine wpF_condB (bb17) (vr (.bool (bb17)) rfl) (fun hc0 => ?_) (fun hc0 => ?_)
 ·refine sk fun K19 hK19 => (wt (oA rfl (oZ (tN (hK19 _ _ (wpF_ret (thenF_ret (postF_ret (fn := Tryd.f6) _ rfl [.bool (true)] (.bool (true)) rfl ⟨rfl, trivial⟩ ?_))))))))
  exact ⟨rfl, hE⟩
 subst hbb18
 have hq := (Bool.or_eq_false_iff.1 hc0)
 have hL : lightB x.1 = true := by have := hq.1; simpa using this
 have hml := of_decide_eq_false hq.2
 have hI : IdsOk x.1 := MsgAt.ids hm
 cases hR : rightB x.1
 ·refine wpF_skip (tN (hK10 _ _ (sk fun K20 hK20 => (wt (oS rfl (Yk.loadAll (vr (PQ n2 0) rfl) hb8 (wr15_ty29).choose_spec rfl (st_isz (msg_len x) wr15_isz29) (oS rfl (Yk.callA1 wr15_pl16 (vr (.agg (msgC x).toArray) rfl) ((encode_no _ x (MsgAt.mk (hmr.keep hE) (hmw.keep hE) (hmh.keep hE) (hmb.keep hE)) ((lightB_get hL).lt) hR).mono ?_)))))))))
  rintro e w24 ⟨v21, rfl, hr22, hx23⟩
  refine ⟨_, rfl, ?_⟩
  have hE := hE.trans hx23
  have hb8 := eb hx23 hb8
  refine oM rfl (oS rfl (Yk.extract (vs := [v21, NI 1]) (vr (.tuple #[v21, NI 1]) rfl) (show _ = some (v21 : Value) from rfl) (oS rfl (Yk.extract (vs := [v21, NI 1]) (vr (.tuple #[v21, NI 1]) rfl) (show _ = some (NI 1 : Value) from rfl) (oA rfl (oA rfl (oZ (tN (hK20 _ _ (sk fun K25 hK25 => (sk fun K26 hK26 => (wt (oM rfl (oS rfl (Yk.eqI (a := (1 : Nat)) (b := (0 : Nat)) rfl rfl (k_neq _ _ _ _) (oM rfl (oN (d := 28) rfl rfl rfl (vr (.bool (true)) (congrArg Value.bool (decide_eq_true (by decide)))) rfl (oN (d := 28) rfl rfl rfl (vr (.bool (true)) (congrArg Value.bool (decide_eq_true (by decide)))) rfl (oN (d := 28) rfl rfl rfl (vr (.bool (true)) (congrArg Value.bool (decide_eq_true (by decide)))) rfl ?_)))))))))))))))))))
  refine oS rfl (Yk.pickT (vr (.bool (true)) (congrArg Value.bool (decide_eq_true (by decide)))) (vr (.bool (true)) rfl) (oZ (tN (hK26 _ _ (wpF_true (vr (.bool (true)) rfl) (sk fun K27 hK27 => (wt (oM rfl (oS rfl (Yk.lenRB wr15_ty26 (RB.of hr22 (vr v21 rfl)) (oS rfl (Yk.eqI (a := ((([] : List UInt8) : List UInt8).length : Nat)) (b := (0 : Nat)) rfl rfl (k_eql _ _ _ _) (oM rfl (oY (d := 36) rfl rfl (vr (.bool (true)) (congrArg Value.bool (decide_eq_true (rfl)))) (Yk.callA0 wr15_pl21  ((awake25 _).mono ?_))))))))))))))))
  rintro e w29 ⟨rfl, hx28⟩
  refine ⟨_, rfl, ?_⟩
  have hE := hE.trans hx28
  have hb8 := eb hx28 hb8
  have hr22 := hr22.keep hx28
  refine oS rfl (Yk.pickT (vr (.bool (true)) (congrArg Value.bool (decide_eq_true (rfl)))) (vr (.bool (true)) rfl) (oA rfl (oZ (tN (hK27 _ _ (wpF_ret (thenF_ret (postF_ret (fn := Tryd.f6) _ rfl [.bool (true)] (.bool (true)) rfl ⟨rfl, trivial⟩ ?_))))))))
  exact ⟨rfl, hE⟩
 have hel := encB_len hR hI
 have he0 : 0 < (encB x.1).length := by unfold encB; simp
 have hC := Nat.mod_lt C he0
 by_cases hmo : more = []
 ·refine wpF_skip (tN (hK10 _ _ (sk fun K30 hK30 => (wt (oS rfl (Yk.loadAll (vr (PQ n2 0) rfl) hb8 (wr15_ty29).choose_spec rfl (st_isz (msg_len x) wr15_isz29) (oS rfl (Yk.callA1 wr15_pl16 (vr (.agg (msgC x).toArray) rfl) ((encode_yes _ x (MsgAt.mk (hmr.keep hE) (hmw.keep hE) (hmh.keep hE) (hmb.keep hE)) ((lightB_get hL).lt) hR).mono ?_)))))))))
  rintro e w34 ⟨v31, rfl, hr32, hx33⟩
  refine ⟨_, rfl, ?_⟩
  have hE := hE.trans hx33
  have hb8 := eb hx33 hb8
  refine oM rfl (oS rfl (Yk.extract (vs := [v31, NI 0]) (vr (.tuple #[v31, NI 0]) rfl) (show _ = some (v31 : Value) from rfl) (oS rfl (Yk.extract (vs := [v31, NI 0]) (vr (.tuple #[v31, NI 0]) rfl) (show _ = some (NI 0 : Value) from rfl) (oA rfl (oA rfl (oZ (tN (hK30 _ _ (sk fun K35 hK35 => (sk fun K36 hK36 => (wt (oM rfl (oS rfl (Yk.eqI (a := (0 : Nat)) (b := (0 : Nat)) rfl rfl (k_neq _ _ _ _) (oM rfl (oY (d := 28) rfl rfl (vr (.bool (false)) (congrArg Value.bool (decide_eq_false (fun h => h rfl)))) (Yk.move (vr v31 rfl) (oY (d := 28) rfl rfl (vr (.bool (false)) (congrArg Value.bool (decide_eq_false (fun h => h rfl)))) (Yk.lenRB wr15_ty26 (RB.of hr32 (vr v31 rfl)) (oY (d := 28) rfl rfl (vr (.bool (false)) (congrArg Value.bool (decide_eq_false (fun h => h rfl)))) (Yk.eqI (a := ((encB x.1 : List UInt8).length : Nat)) (b := (0 : Nat)) rfl rfl (k_eql _ _ _ _) ?_))))))))))))))))))))))
  refine oS rfl (Yk.pickF (vr (.bool (false)) (congrArg Value.bool (decide_eq_false (fun h => h rfl)))) (vr (.bool (false)) (congrArg Value.bool (decide_eq_false (by omega)))) (oZ (tN (hK36 _ _ (wpF_false (vr (.bool (false)) rfl) (wpF_skip (tN (hK35 _ _ (sk fun K37 hK37 => (wt (oM rfl (oM rfl (oS rfl (Yk.convI wr15_ty3 wr15_ty44 T1 hcut (oM rfl (oS rfl (Yk.lenRB wr15_ty26 (RB.of hr32 (vr v31 rfl)) (oS rfl (Yk.convI wr15_ty3 wr15_ty44 (vr (NI ((encB x.1 : List UInt8).length)) rfl) (wrap_u64 ((encB x.1 : List UInt8).length) (by omega)) (oS rfl (Yk.bin (xv := .int .u64 ((C : Nat) : Int)) (yv := .int .u64 (((encB x.1 : List UInt8).length : Nat) : Int)) rfl rfl rfl (u64_rem _ _ _ (by omega)) (oS rfl (Yk.convI wr15_ty44 wr15_ty3 (vr (.int .u64 (((C) % ((encB x.1 : List UInt8).length) : Nat) : Int)) rfl) (wrap_i64 ((C) % ((encB x.1 : List UInt8).length)) (by omega)) ?_)))))))))))))))))))))))
  refine oS rfl (Yk.sliceHi (xs := encB x.1) (n := (C) % ((encB x.1 : List UInt8).length)) wr15_ty26 wr15_sz5 (vr v31 rfl) hr32 (vr (NI ((C) % ((encB x.1 : List UInt8).length))) rfl) (by omega) fun v38 hr39 ha40 => (oS rfl (Yk.callA1 wr15_pl22 (vr v38 rfl) ((decode_all _ v38 ((encB x.1 : List UInt8).take ((C) % ((encB x.1 : List UInt8).length))) hr39 (by rw [List.length_take]; omega)).mono ?_))))
  rintro e w42 ⟨X41, c41, rfl, hX41, hd41, hx41⟩
  refine ⟨_, rfl, ?_⟩
  have hE := hE.trans hx41
  have hb8 := eb hx41 hb8
  have hr32 := hr32.keep hx41
  have hr39 := hr39.keep hx41
  have hX41r := hX41.refs
  have hX41w := hX41.wants
  have hX41h := hX41.haves
  have hX41b := hX41.bytes
  rw [show decP _ = _ from decP_cut hR hI hC] at hd41
  obtain ⟨hc41, hm41⟩ := hd41
  subst hc41
  refine oM rfl (oS rfl (Yk.extract (vs := [.agg (msgC X41).toArray, NI 6]) (vr (.tuple #[.agg (msgC X41).toArray, NI 6]) rfl) (show _ = some (.agg (msgC X41).toArray : Value) from rfl) (oS rfl (Yk.extract (vs := [.agg (msgC X41).toArray, NI 6]) (vr (.tuple #[.agg (msgC X41).toArray, NI 6]) rfl) (show _ = some (NI 6 : Value) from rfl) (oS rfl (Yk.alloc (cs := (msgC ((⟨0, 0, [], [], [], 0, 0, zid, [], [], zid, zid, false, 0⟩, ⟨.slice none 0 0, .slice none 0 0, .slice none 0 0, .slice none 0 0⟩) : MsgV)).toArray) wr15_al29 fun n43 w44 hn45 hb46 hx47 hs48 => ?_))))))
  have hA49 := Ext.refl w42
  have hea50 := hE
  have hz51 := hE.size
  have hlt52 := lte (bl hb8) hn45
  have hE := hE.trans hx47
  have hb8 := eb hx47 hb8
  have hA49 := hA49.trans hx47
  have hb53 := hb46; clear hb46
  have hl54 : n43 < w44.heap.size := by omega
  refine oS rfl (Yk.storeAll (vr (PQ n43 0) rfl) (vr (.agg (msgC X41).toArray) rfl) hb53 (by simp only [List.size_toArray, msg_len]) (st_isz (msg_len _) wr15_isz29) (msg_one (x := X41) (RG.one (hX41r.keep hA49)).2 (RG.one (hX41w.keep hA49)).2 (RG.one (hX41h.keep hA49)).2 (RB.one (hX41b.keep hA49)).2) fun w55 hb56 hg57 hs58 => ?_)
  have hE := row_fresh hE hg57 (Nat.le_trans hz51 (by omega))
  have hb8 := kb hg57 hb8 (by omega)
  have hA49 := row_fresh hA49 hg57 (Nat.le_trans (Nat.le_refl _) (by omega))
  clear hb53
  have hb53 : w55.heap[n43]? = some (.cells (msgC X41).toArray 29 (0, 0)) := hb56; clear hb56
  have hl59 := bl hb53
  refine oA rfl (oZ (tN (hK37 _ _ (sk fun K60 hK60 => (wt (oS rfl (Yk.lit0 wr15_l0_26 fun v61 w62 hN63 => ?_)))))))
  have hA64 := Ext.refl w55
  have hea65 := hE
  have hea66 := hA49
  have hz67 := hE.size
  have hz68 := hA49.size
  have hap69 : OB v61 n2 := own_older hN63.own (bl hb8)
  have hap70 : OB v61 n43 := own_older hN63.own (bl hb53)
  have hE := hE.trans hN63.ext
  have hb8 := eb hN63.ext hb8
  have hA49 := hA49.trans hN63.ext
  have hb53 := eb hN63.ext hb53
  have hA64 := hA64.trans hN63.ext
  have ho71 := hN63.own; clear hN63
  refine oM rfl (oS rfl (Yk.appendRB _ _ w55.heap.size (.int .u8 0) wr15_ty26 wr15_inf5 rfl wr15_ty26 (([] : List UInt8)) (encB x.1) (own_of ho71 (vr v61 rfl)) (RB.of (hr32.keep hA49) (vr v31 rfl)) (by simp only [List.length_nil]; omega) hA64.size fun v72 w73 ho74 hg75 => ?_))
  have hg75 : Grew w62 w73 v61 v72 := hg75
  have hap76 : OB v72 n2 := apart_grew hg75 hap69 (bl hb8)
  have hap77 : OB v72 n43 := apart_grew hg75 hap70 (bl hb53)
  have hE := ext_grew hE hg75 ho71 hz67
  have hb8 := blk_grew hb8 hg75 hap69
  have hA49 := ext_grew hA49 hg75 ho71 hz68
  have hb53 := blk_grew hb53 hg75 hap70
  have hA64 := ext_grew hA64 hg75 ho71 (Nat.le_refl _)
  clear ho71
  refine oM rfl (oS rfl (Yk.appendRB _ _ w55.heap.size (.int .u8 0) wr15_ty26 wr15_inf5 rfl wr15_ty26 (([] : List UInt8) ++ encB x.1) (more) (own_of ho74 (vr v72 rfl)) (RB.of (hrm.keep hE) T2) (by simp only [List.length_append, List.length_nil]; omega) hA64.size fun v78 w79 ho80 hg81 => ?_))
  have hg81 : Grew w73 w79 v72 v78 := hg81
  have hap82 : OB v78 n2 := apart_grew hg81 hap76 (bl hb8)
  have hap83 : OB v78 n43 := apart_grew hg81 hap77 (bl hb53)
  have hE := ext_grew hE hg81 ho74 hz67
  have hb8 := blk_grew hb8 hg81 hap76
  have hA49 := ext_grew hA49 hg81 ho74 hz68
  have hb53 := blk_grew hb53 hg81 hap77
  have hA64 := ext_grew hA64 hg81 ho74 (Nat.le_refl _)
  clear ho74
  refine oS rfl (Yk.callA1 wr15_pl22 (vr v78 rfl) ((decode_all _ v78 (([] : List UInt8) ++ encB x.1 ++ more) (RB.ofOwn ho80) (by simp only [List.length_append, List.length_nil]; omega)).mono ?_))
  rintro e w85 ⟨X84, c84, rfl, hX84, hd84, hx84⟩
  refine ⟨_, rfl, ?_⟩
  have hE := hE.trans hx84
  have hb8 := eb hx84 hb8
  have hA49 := hA49.trans hx84
  have hb53 := eb hx84 hb53
  have hA64 := hA64.trans hx84
  have ho80 := Stab.own _ _ _ _ _ _ _ _ ho80 hx84
  have hX84r := hX84.refs
  have hX84w := hX84.wants
  have hX84h := hX84.haves
  have hX84b := hX84.bytes
  rw [show decP _ = _ from (by rw [List.nil_append, decP_more hR hI, if_pos hmo] : _ = some x.1)] at hd84
  obtain ⟨hc84, hm84⟩ := hd84
  subst hc84
  refine oM rfl (oS rfl (Yk.extract (vs := [.agg (msgC X84).toArray, NI 0]) (vr (.tuple #[.agg (msgC X84).toArray, NI 0]) rfl) (show _ = some (.agg (msgC X84).toArray : Value) from rfl) (oS rfl (Yk.extract (vs := [.agg (msgC X84).toArray, NI 0]) (vr (.tuple #[.agg (msgC X84).toArray, NI 0]) rfl) (show _ = some (NI 0 : Value) from rfl) (oS rfl (Yk.alloc (cs := (msgC ((⟨0, 0, [], [], [], 0, 0, zid, [], [], zid, zid, false, 0⟩, ⟨.slice none 0 0, .slice none 0 0, .slice none 0 0, .slice none 0 0⟩) : MsgV)).toArray) wr15_al29 fun n86 w87 hn88 hb89 hx90 hs91 => ?_))))))
  have hA92 := Ext.refl w85
  have hea93 := hE
  have hea94 := hA49
  have hea95 := hA64
  have hz96 := hE.size
  have hz97 := hA49.size
  have hz98 := hA64.size
  have hlt99 := lte (bl hb8) hn88
  have hlt100 := lte (bl hb53) hn88
  have hap101 : OB v78 n86 := own_newer ho80 (by omega)
  have hE := hE.trans hx90
  have hb8 := eb hx90 hb8
  have hA49 := hA49.trans hx90
  have hb53 := eb hx90 hb53
  have hA64 := hA64.trans hx90
  have ho80 := Stab.own _ _ _ _ _ _ _ _ ho80 hx90
  have hA92 := hA92.trans hx90
  have hb102 := hb89; clear hb89
  have hl103 : n86 < w87.heap.size := by omega
  refine oS rfl (Yk.storeAll (vr (PQ n86 0) rfl) (vr (.agg (msgC X84).toArray) rfl) hb102 (by simp only [List.size_toArray, msg_len]) (st_isz (msg_len _) wr15_isz29) (msg_one (x := X84) (RG.one (hX84r.keep hA92)).2 (RG.one (hX84w.keep hA92)).2 (RG.one (hX84h.keep hA92)).2 (RB.one (hX84b.keep hA92)).2) fun w104 hb105 hg106 hs107 => ?_)
  have hE := row_fresh hE hg106 (Nat.le_trans hz96 (by omega))
  have hb8 := kb hg106 hb8 (by omega)
  have hA49 := row_fresh hA49 hg106 (Nat.le_trans hz97 (by omega))
  have hb53 := kb hg106 hb53 (by omega)
  have hA64 := row_fresh hA64 hg106 (Nat.le_trans hz98 (by omega))
  have ho80 := own_kept ho80 hg106 hap101
  have hA92 := row_fresh hA92 hg106 (Nat.le_trans (Nat.le_refl _) (by omega))
  clear hb102
  have hb102 : w104.heap[n86]? = some (.cells (msgC X84).toArray 29 (0, 0)) := hb105; clear hb105
  have hl108 := bl hb102
  refine oA rfl (oL_ [(0, .agg (msgC x).toArray), (1, .int .i64 (cut : Int)), (2, vm), (3, PQ n2 0), (6, .bool (false)), (7, v31), (8, NI 0), (10, NI 6), (12, NI 0), (32, .bool (false))] ⟨T0, T1, T2, rfl, rfl, rfl, rfl, rfl, rfl, rfl, trivial⟩ fun ρ109 ⟨T0, T1, T2, T3, T6, T7, T8, T10, T12, T32, _⟩ => (tN (hK60 _ _ (sk fun K110 hK110 => (wt (oM rfl (oS rfl (Yk.eqI (a := (6 : Nat)) (b := (6 : Nat)) T10 rfl (k_eql _ _ _ _) (oM rfl (oY (d := 63) rfl rfl (vr (.bool (true)) (congrArg Value.bool (decide_eq_true (rfl)))) (Yk.move T12 (oY (d := 63) rfl rfl (vr (.bool (true)) (congrArg Value.bool (decide_eq_true (rfl)))) (Yk.eqI (a := (0 : Nat)) (b := (0 : Nat)) rfl rfl (k_eql _ _ _ _) (oY (d := 63) rfl rfl (vr (.bool (true)) (congrArg Value.bool (decide_eq_true (rfl)))) (Yk.move T2 (oY (d := 63) rfl rfl (vr (.bool (true)) (congrArg Value.bool (decide_eq_true (rfl)))) (Yk.lenRB wr15_ty26 (RB.of (hrm.keep hE) (vr vm rfl)) (oY (d := 63) rfl rfl (vr (.bool (true)) (congrArg Value.bool (decide_eq_true (rfl)))) (Yk.eqI (a := (more.length : Nat)) (b := (0 : Nat)) rfl rfl (k_eql _ _ _ _) (oY (d := 63) rfl rfl (vr (.bool (true)) (congrArg Value.bool (decide_eq_true (rfl)))) (Yk.eqBool (a := true) (b := true) wr15_ty4 (vr (.bool (true)) (congrArg Value.bool (decide_eq_true (rfl)))) (vr (.bool (true)) (congrArg Value.bool (decide_eq_true (by rw [hmo]; rfl)))) (oS rfl (Yk.pickT (vr (.bool (true)) (congrArg Value.bool (decide_eq_true (rfl)))) (vr (.bool (true)) (congrArg Value.bool (rfl))) (oM rfl ?_))))))))))))))))))))))))
  refine oY (d := 71) rfl rfl (vr (.bool (true)) rfl) (Yk.callA0 wr15_pl21  ((awake25 _).mono ?_))
  rintro e w112 ⟨rfl, hx111⟩
  refine ⟨_, rfl, ?_⟩
  have hE := hE.trans hx111
  have hb8 := eb hx111 hb8
  have hA49 := hA49.trans hx111
  have hb53 := eb hx111 hb53
  have hA64 := hA64.trans hx111
  have ho80 := Stab.own _ _ _ _ _ _ _ _ ho80 hx111
  have hA92 := hA92.trans hx111
  have hb102 := eb hx111 hb102
  refine oS rfl (Yk.pickT (vr (.bool (true)) rfl) (vr (.bool (true)) rfl) (oA rfl (oZ (tN (hK110 _ _ (wpF_ret (postF_ret (fn := Tryd.f6) _ rfl [.bool (true)] (.bool (true)) rfl ⟨rfl, trivial⟩ ?_)))))))
  exact ⟨rfl, hE⟩
 refine wpF_skip (tN (hK10 _ _ (sk fun K113 hK113 => (wt (oS rfl (Yk.loadAll (vr (PQ n2 0) rfl) hb8 (wr15_ty29).choose_spec rfl (st_isz (msg_len x) wr15_isz29) (oS rfl (Yk.callA1 wr15_pl16 (vr (.agg (msgC x).toArray) rfl) ((encode_yes _ x (MsgAt.mk (hmr.keep hE) (hmw.keep hE) (hmh.keep hE) (hmb.keep hE)) ((lightB_get hL).lt) hR).mono ?_)))))))))
 rintro e w117 ⟨v114, rfl, hr115, hx116⟩
 refine ⟨_, rfl, ?_⟩
 have hE := hE.trans hx116
 have hb8 := eb hx116 hb8
 refine oM rfl (oS rfl (Yk.extract (vs := [v114, NI 0]) (vr (.tuple #[v114, NI 0]) rfl) (show _ = some (v114 : Value) from rfl) (oS rfl (Yk.extract (vs := [v114, NI 0]) (vr (.tuple #[v114, NI 0]) rfl) (show _ = some (NI 0 : Value) from rfl) (oA rfl (oA rfl (oZ (tN (hK113 _ _ (sk fun K118 hK118 => (sk fun K119 hK119 => (wt (oM rfl (oS rfl (Yk.eqI (a := (0 : Nat)) (b := (0 : Nat)) rfl rfl (k_neq _ _ _ _) (oM rfl (oY (d := 28) rfl rfl (vr (.bool (false)) (congrArg Value.bool (decide_eq_false (fun h => h rfl)))) (Yk.move (vr v114 rfl) (oY (d := 28) rfl rfl (vr (.bool (false)) (congrArg Value.bool (decide_eq_false (fun h => h rfl)))) (Yk.lenRB wr15_ty26 (RB.of hr115 (vr v114 rfl)) (oY (d := 28) rfl rfl (vr (.bool (false)) (congrArg Value.bool (decide_eq_false (fun h => h rfl)))) (Yk.eqI (a := ((encB x.1 : List UInt8).length : Nat)) (b := (0 : Nat)) rfl rfl (k_eql _ _ _ _) ?_))))))))))))))))))))))
 refine oS rfl (Yk.pickF (vr (.bool (false)) (congrArg Value.bool (decide_eq_false (fun h => h rfl)))) (vr (.bool (false)) (congrArg Value.bool (decide_eq_false (by omega)))) (oZ (tN (hK119 _ _ (wpF_false (vr (.bool (false)) rfl) (wpF_skip (tN (hK118 _ _ (sk fun K120 hK120 => (wt (oM rfl (oM rfl (oS rfl (Yk.convI wr15_ty3 wr15_ty44 T1 hcut (oM rfl (oS rfl (Yk.lenRB wr15_ty26 (RB.of hr115 (vr v114 rfl)) (oS rfl (Yk.convI wr15_ty3 wr15_ty44 (vr (NI ((encB x.1 : List UInt8).length)) rfl) (wrap_u64 ((encB x.1 : List UInt8).length) (by omega)) (oS rfl (Yk.bin (xv := .int .u64 ((C : Nat) : Int)) (yv := .int .u64 (((encB x.1 : List UInt8).length : Nat) : Int)) rfl rfl rfl (u64_rem _ _ _ (by omega)) (oS rfl (Yk.convI wr15_ty44 wr15_ty3 (vr (.int .u64 (((C) % ((encB x.1 : List UInt8).length) : Nat) : Int)) rfl) (wrap_i64 ((C) % ((encB x.1 : List UInt8).length)) (by omega)) ?_)))))))))))))))))))))))
 refine oS rfl (Yk.sliceHi (xs := encB x.1) (n := (C) % ((encB x.1 : List UInt8).length)) wr15_ty26 wr15_sz5 (vr v114 rfl) hr115 (vr (NI ((C) % ((encB x.1 : List UInt8).length))) rfl) (by omega) fun v121 hr122 ha123 => (oS rfl (Yk.callA1 wr15_pl22 (vr v121 rfl) ((decode_all _ v121 ((encB x.1 : List UInt8).take ((C) % ((encB x.1 : List UInt8).length))) hr122 (by rw [List.length_take]; omega)).mono ?_))))
 rintro e w125 ⟨X124, c124, rfl, hX124, hd124, hx124⟩
 refine ⟨_, rfl, ?_⟩
 have hE := hE.trans hx124
 have hb8 := eb hx124 hb8
 have hr115 := hr115.keep hx124
 have hr122 := hr122.keep hx124
 have hX124r := hX124.refs
 have hX124w := hX124.wants
 have hX124h := hX124.haves
 have hX124b := hX124.bytes
 rw [show decP _ = _ from decP_cut hR hI hC] at hd124
 obtain ⟨hc124, hm124⟩ := hd124
 subst hc124
 refine oM rfl (oS rfl (Yk.extract (vs := [.agg (msgC X124).toArray, NI 6]) (vr (.tuple #[.agg (msgC X124).toArray, NI 6]) rfl) (show _ = some (.agg (msgC X124).toArray : Value) from rfl) (oS rfl (Yk.extract (vs := [.agg (msgC X124).toArray, NI 6]) (vr (.tuple #[.agg (msgC X124).toArray, NI 6]) rfl) (show _ = some (NI 6 : Value) from rfl) (oS rfl (Yk.alloc (cs := (msgC ((⟨0, 0, [], [], [], 0, 0, zid, [], [], zid, zid, false, 0⟩, ⟨.slice none 0 0, .slice none 0 0, .slice none 0 0, .slice none 0 0⟩) : MsgV)).toArray) wr15_al29 fun n126 w127 hn128 hb129 hx130 hs131 => ?_))))))
 have hA132 := Ext.refl w125
 have hea133 := hE
 have hz134 := hE.size
 have hlt135 := lte (bl hb8) hn128
 have hE := hE.trans hx130
 have hb8 := eb hx130 hb8
 have hA132 := hA132.trans hx130
 have hb136 := hb129; clear hb129
 have hl137 : n126 < w127.heap.size := by omega
 refine oS rfl (Yk.storeAll (vr (PQ n126 0) rfl) (vr (.agg (msgC X124).toArray) rfl) hb136 (by simp only [List.size_toArray, msg_len]) (st_isz (msg_len _) wr15_isz29) (msg_one (x := X124) (RG.one (hX124r.keep hA132)).2 (RG.one (hX124w.keep hA132)).2 (RG.one (hX124h.keep hA132)).2 (RB.one (hX124b.keep hA132)).2) fun w138 hb139 hg140 hs141 => ?_)
 have hE := row_fresh hE hg140 (Nat.le_trans hz134 (by omega))
 have hb8 := kb hg140 hb8 (by omega)
 have hA132 := row_fresh hA132 hg140 (Nat.le_trans (Nat.le_refl _) (by omega))
 clear hb136
 have hb136 : w138.heap[n126]? = some (.cells (msgC X124).toArray 29 (0, 0)) := hb139; clear hb139
 have hl142 := bl hb136
 refine oA rfl (oZ (tN (hK120 _ _ (sk fun K143 hK143 => (wt (oS rfl (Yk.lit0 wr15_l0_26 fun v144 w145 hN146 => ?_)))))))
 have hA147 := Ext.refl w138
 have hea148 := hE
 have hea149 := hA132
 have hz150 := hE.size
 have hz151 := hA132.size
 have hap152 : OB v144 n2 := own_older hN146.own (bl hb8)
 have hap153 : OB v144 n126 := own_older hN146.own (bl hb136)
 have hE := hE.trans hN146.ext
 have hb8 := eb hN146.ext hb8
 have hA132 := hA132.trans hN146.ext
 have hb136 := eb hN146.ext hb136
 have hA147 := hA147.trans hN146.ext
 have ho154 := hN146.own; clear hN146
 refine oM rfl (oS rfl (Yk.appendRB _ _ w138.heap.size (.int .u8 0) wr15_ty26 wr15_inf5 rfl wr15_ty26 (([] : List UInt8)) (encB x.1) (own_of ho154 (vr v144 rfl)) (RB.of (hr115.keep hA132) (vr v114 rfl)) (by simp only [List.length_nil]; omega) hA147.size fun v155 w156 ho157 hg158 => ?_))
 have hg158 : Grew w145 w156 v144 v155 := hg158
 have hap159 : OB v155 n2 := apart_grew hg158 hap152 (bl hb8)
 have hap160 : OB v155 n126 := apart_grew hg158 hap153 (bl hb136)
 have hE := ext_grew hE hg158 ho154 hz150
 have hb8 := blk_grew hb8 hg158 hap152
 have hA132 := ext_grew hA132 hg158 ho154 hz151
 have hb136 := blk_grew hb136 hg158 hap153
 have hA147 := ext_grew hA147 hg158 ho154 (Nat.le_refl _)
 clear ho154
 refine oM rfl (oS rfl (Yk.appendRB _ _ w138.heap.size (.int .u8 0) wr15_ty26 wr15_inf5 rfl wr15_ty26 (([] : List UInt8) ++ encB x.1) (more) (own_of ho157 (vr v155 rfl)) (RB.of (hrm.keep hE) T2) (by simp only [List.length_append, List.length_nil]; omega) hA147.size fun v161 w162 ho163 hg164 => ?_))
 have hg164 : Grew w156 w162 v155 v161 := hg164
 have hap165 : OB v161 n2 := apart_grew hg164 hap159 (bl hb8)
 have hap166 : OB v161 n126 := apart_grew hg164 hap160 (bl hb136)
 have hE := ext_grew hE hg164 ho157 hz150
 have hb8 := blk_grew hb8 hg164 hap159
 have hA132 := ext_grew hA132 hg164 ho157 hz151
 have hb136 := blk_grew hb136 hg164 hap160
 have hA147 := ext_grew hA147 hg164 ho157 (Nat.le_refl _)
 clear ho157
 refine oS rfl (Yk.callA1 wr15_pl22 (vr v161 rfl) ((decode_all _ v161 (([] : List UInt8) ++ encB x.1 ++ more) (RB.ofOwn ho163) (by simp only [List.length_append, List.length_nil]; omega)).mono ?_))
 rintro e w168 ⟨X167, c167, rfl, hX167, hd167, hx167⟩
 refine ⟨_, rfl, ?_⟩
 have hE := hE.trans hx167
 have hb8 := eb hx167 hb8
 have hA132 := hA132.trans hx167
 have hb136 := eb hx167 hb136
 have hA147 := hA147.trans hx167
 have ho163 := Stab.own _ _ _ _ _ _ _ _ ho163 hx167
 have hX167r := hX167.refs
 have hX167w := hX167.wants
 have hX167h := hX167.haves
 have hX167b := hX167.bytes
 rw [show decP _ = _ from (by rw [List.nil_append, decP_more hR hI, if_neg hmo] : _ = none)] at hd167
 obtain ⟨hc167, hm167⟩ := hd167
 subst hc167
 refine oM rfl (oS rfl (Yk.extract (vs := [.agg (msgC X167).toArray, NI 6]) (vr (.tuple #[.agg (msgC X167).toArray, NI 6]) rfl) (show _ = some (.agg (msgC X167).toArray : Value) from rfl) (oS rfl (Yk.extract (vs := [.agg (msgC X167).toArray, NI 6]) (vr (.tuple #[.agg (msgC X167).toArray, NI 6]) rfl) (show _ = some (NI 6 : Value) from rfl) (oS rfl (Yk.alloc (cs := (msgC ((⟨0, 0, [], [], [], 0, 0, zid, [], [], zid, zid, false, 0⟩, ⟨.slice none 0 0, .slice none 0 0, .slice none 0 0, .slice none 0 0⟩) : MsgV)).toArray) wr15_al29 fun n169 w170 hn171 hb172 hx173 hs174 => ?_))))))
 have hA175 := Ext.refl w168
 have hea176 := hE
 have hea177 := hA132
 have hea178 := hA147
 have hz179 := hE.size
 have hz180 := hA132.size
 have hz181 := hA147.size
 have hlt182 := lte (bl hb8) hn171
 have hlt183 := lte (bl hb136) hn171
 have hap184 : OB v161 n169 := own_newer ho163 (by omega)
 have hE := hE.trans hx173
 have hb8 := eb hx173 hb8
 have hA132 := hA132.trans hx173
 have hb136 := eb hx173 hb136
 have hA147 := hA147.trans hx173
 have ho163 := Stab.own _ _ _ _ _ _ _ _ ho163 hx173
 have hA175 := hA175.trans hx173
 have hb185 := hb172; clear hb172
 have hl186 : n169 < w170.heap.size := by omega
 refine oS rfl (Yk.storeAll (vr (PQ n169 0) rfl) (vr (.agg (msgC X167).toArray) rfl) hb185 (by simp only [List.size_toArray, msg_len]) (st_isz (msg_len _) wr15_isz29) (msg_one (x := X167) (RG.one (hX167r.keep hA175)).2 (RG.one (hX167w.keep hA175)).2 (RG.one (hX167h.keep hA175)).2 (RB.one (hX167b.keep hA175)).2) fun w187 hb188 hg189 hs190 => ?_)
 have hE := row_fresh hE hg189 (Nat.le_trans hz179 (by omega))
 have hb8 := kb hg189 hb8 (by omega)
 have hA132 := row_fresh hA132 hg189 (Nat.le_trans hz180 (by omega))
 have hb136 := kb hg189 hb136 (by omega)
 have hA147 := row_fresh hA147 hg189 (Nat.le_trans hz181 (by omega))
 have ho163 := own_kept ho163 hg189 hap184
 have hA175 := row_fresh hA175 hg189 (Nat.le_trans (Nat.le_refl _) (by omega))
 clear hb185
 have hb185 : w187.heap[n169]? = some (.cells (msgC X167).toArray 29 (0, 0)) := hb188; clear hb188
 have hl191 := bl hb185
 refine oA rfl (oL_ [(0, .agg (msgC x).toArray), (1, .int .i64 (cut : Int)), (2, vm), (3, PQ n2 0), (6, .bool (false)), (7, v114), (8, NI 0), (10, NI 6), (12, NI 6), (32, .bool (false))] ⟨T0, T1, T2, rfl, rfl, rfl, rfl, rfl, rfl, rfl, trivial⟩ fun ρ192 ⟨T0, T1, T2, T3, T6, T7, T8, T10, T12, T32, _⟩ => (tN (hK143 _ _ (sk fun K193 hK193 => (wt (oM rfl (oS rfl (Yk.eqI (a := (6 : Nat)) (b := (6 : Nat)) T10 rfl (k_eql _ _ _ _) (oM rfl (oY (d := 63) rfl rfl (vr (.bool (true)) (congrArg Value.bool (decide_eq_true (rfl)))) (Yk.move T12 (oY (d := 63) rfl rfl (vr (.bool (true)) (congrArg Value.bool (decide_eq_true (rfl)))) (Yk.eqI (a := (6 : Nat)) (b := (0 : Nat)) rfl rfl (k_eql _ _ _ _) (oY (d := 63) rfl rfl (vr (.bool (true)) (congrArg Value.bool (decide_eq_true (rfl)))) (Yk.move T2 (oY (d := 63) rfl rfl (vr (.bool (true)) (congrArg Value.bool (decide_eq_true (rfl)))) (Yk.lenRB wr15_ty26 (RB.of (hrm.keep hE) (vr vm rfl)) (oY (d := 63) rfl rfl (vr (.bool (true)) (congrArg Value.bool (decide_eq_true (rfl)))) (Yk.eqI (a := (more.length : Nat)) (b := (0 : Nat)) rfl rfl (k_eql _ _ _ _) (oY (d := 63) rfl rfl (vr (.bool (true)) (congrArg Value.bool (decide_eq_true (rfl)))) (Yk.eqBool (a := false) (b := false) wr15_ty4 (vr (.bool (false)) (congrArg Value.bool (decide_eq_false (by decide)))) (vr (.bool (false)) (congrArg Value.bool (decide_eq_false (fun h => hmo (List.eq_nil_of_length_eq_zero h))))) (oS rfl (Yk.pickT (vr (.bool (true)) (congrArg Value.bool (decide_eq_true (rfl)))) (vr (.bool (true)) (congrArg Value.bool (rfl))) (oM rfl ?_))))))))))))))))))))))))
 refine oY (d := 71) rfl rfl (vr (.bool (true)) rfl) (Yk.callA0 wr15_pl21  ((awake25 _).mono ?_))
 rintro e w195 ⟨rfl, hx194⟩
 refine ⟨_, rfl, ?_⟩
 have hE := hE.trans hx194
 have hb8 := eb hx194 hb8
 have hA132 := hA132.trans hx194
 have hb136 := eb hx194 hb136
 have hA147 := hA147.trans hx194
 have ho163 := Stab.own _ _ _ _ _ _ _ _ ho163 hx194
 have hA175 := hA175.trans hx194
 have hb185 := eb hx194 hb185
 refine oS rfl (Yk.pickT (vr (.bool (true)) rfl) (vr (.bool (true)) rfl) (oA rfl (oZ (tN (hK193 _ _ (wpF_ret (postF_ret (fn := Tryd.f6) _ rfl [.bool (true)] (.bool (true)) rfl ⟨rfl, trivial⟩ ?_)))))))
 exact ⟨rfl, hE⟩

theorem wireBack_walk (w : World) (x : MsgV) (hm : MsgAt w x) (vb : Value) (b : Bs) (hrb : RB w vb b) :
  Calls Tryd.prog 5 #[.agg (msgC x).toArray, vb] w fun e w' => e = .returned (.bool true) ∧ Ext w w' := by
 have hmr := hm.refs
 have hmw := hm.wants
 have hmh := hm.haves
 have hmb := hm.bytes
 refine calls_of_wpF (args := [.agg (msgC x).toArray, vb]) Tryd.func5 rfl 69 rfl (Nat.le_of_ble_eq_true rfl) ?_
 intro ρ0 hb
 have T0 : ρ0 0 = (.agg (msgC x).toArray : Value) := hb.get 0
 have T1 : ρ0 1 = (vb : Value) := hb.get 1
 clear hb
 have hE := Ext.refl w
 refine sk fun K1 hK1 => (wt (oS rfl (Yk.box (cs := (msgC x : List Value).toArray) T0 fun n2 w3 hn4 hb5 hx6 hs7 => ?_)))
 have hE := hE.trans hx6
 have hb8 := hb5; clear hb5
 have hl9 : n2 < w3.heap.size := by omega
 refine oA rfl (oZ (tN (hK1 _ _ (sk fun K10 hK10 => (sk fun K11 hK11 => (wt (oS rfl (Yk.loadAll (vr (PQ n2 0) rfl) hb8 (wr15_ty29).choose_spec rfl (st_isz (msg_len x) wr15_isz29) (oS rfl (Yk.callA1 wr15_pl15 (vr (.agg (msgC x).toArray) rfl) ((light_any _ x (MsgAt.mk (hmr.keep hE) (hmw.keep hE) (hmh.keep hE) (hmb.keep hE))).mono ?_)))))))))))
 rintro e w13 ⟨rfl, hx12⟩
 refine ⟨_, rfl, ?_⟩
 have hE := hE.trans hx12
 have hb8 := eb hx12 hb8
 refine oS rfl (Yk.notB (vr (.bool (lightB x.1)) rfl) (oM rfl (opsF_mayV (vb) rfl rfl (gF (vr (.bool (!(lightB x.1))) rfl)) (fun hG14 => Yk.move T1 ⟨rfl, rfl⟩) (opsF_mayV (NI b.length) rfl rfl (gF (vr (.bool (!(lightB x.1))) rfl)) (fun hG15 => Yk.lenRB wr15_ty26 (RB.of (hrb.keep hE) (mayT (vr (cond (!(!(lightB x.1))) (vb) undef) rfl) hG15)) ⟨rfl, rfl⟩) (opsF_mayV (.bool (decide ((6000) < (b.length)))) rfl rfl (gF (vr (.bool (!(lightB x.1))) rfl)) (fun hG16 => Yk.eqI (a := ((b.length : Nat) : Int)) (b := ((6000 : Nat) : Int)) (mayT (vr (cond (!(!(lightB x.1))) (NI b.length) undef) rfl) hG16) (vr (NI 6000) rfl) (k_gtr _ .i64 (b.length) (6000)) ⟨rfl, rfl⟩) (oS rfl (Yk.pickOrN (vr (.bool (!(lightB x.1))) rfl) (vr (.bool (true)) rfl) (fun hA => (mayT (vr (cond (!(!(lightB x.1))) (.bool (decide ((6000) < (b.length)))) undef) rfl) (not_i hA))) fun bb17 hbb18 => (oZ (tN (hK11 _ _ ?_))))))))))
 refine wpF_condB (bb17) (vr (.bool (bb17)) rfl) (fun hc0 => ?_) (fun hc0 => ?_)
 ·refine sk fun K19 hK19 => (wt (oA rfl (oZ (tN (hK19 _ _ (wpF_ret (thenF_ret (postF_ret (fn := Tryd.f5) _ rfl [.bool (true)] (.bool (true)) rfl ⟨rfl, trivial⟩ ?_))))))))
  exact ⟨rfl, hE⟩
 subst hbb18
 have hq := (Bool.or_eq_false_iff.1 hc0)
 have hL : lightB x.1 = true := by have := hq.1; simpa using this
 have hbl := of_decide_eq_false hq.2
 have hI : IdsOk x.1 := MsgAt.ids hm
 rcases hD : decP b with _ | m
 ·cases hR : rightB x.1
  ·refine wpF_skip (tN (hK10 _ _ (sk fun K20 hK20 => (wt (oS rfl (Yk.loadAll (vr (PQ n2 0) rfl) hb8 (wr15_ty29).choose_spec rfl (st_isz (msg_len x) wr15_isz29) (oS rfl (Yk.callA1 wr15_pl16 (vr (.agg (msgC x).toArray) rfl) ((encode_no _ x (MsgAt.mk (hmr.keep hE) (hmw.keep hE) (hmh.keep hE) (hmb.keep hE)) ((lightB_get hL).lt) hR).mono ?_)))))))))
   rintro e w24 ⟨v21, rfl, hr22, hx23⟩
   refine ⟨_, rfl, ?_⟩
   have hE := hE.trans hx23
   have hb8 := eb hx23 hb8
   refine oM rfl (oS rfl (Yk.extract (vs := [v21, NI 1]) (vr (.tuple #[v21, NI 1]) rfl) (show _ = some (v21 : Value) from rfl) (oS rfl (Yk.extract (vs := [v21, NI 1]) (vr (.tuple #[v21, NI 1]) rfl) (show _ = some (NI 1 : Value) from rfl) (oA rfl (oA rfl (oZ (tN (hK20 _ _ (sk fun K25 hK25 => (wt (oM rfl (oS rfl (Yk.callA1 wr15_pl22 (vr v21 rfl) ((decode_all _ v21 (([] : List UInt8)) hr22 (by decide)).mono ?_)))))))))))))))
   rintro e w27 ⟨X26, c26, rfl, hX26, hd26, hx26⟩
   refine ⟨_, rfl, ?_⟩
   have hE := hE.trans hx26
   have hb8 := eb hx26 hb8
   have hr22 := hr22.keep hx26
   have hX26r := hX26.refs
   have hX26w := hX26.wants
   have hX26h := hX26.haves
   have hX26b := hX26.bytes
   rw [show decP _ = _ from (rfl : decP [] = none)] at hd26
   obtain ⟨hc26, hm26⟩ := hd26
   subst hc26
   refine oM rfl (oS rfl (Yk.extract (vs := [.agg (msgC X26).toArray, NI 6]) (vr (.tuple #[.agg (msgC X26).toArray, NI 6]) rfl) (show _ = some (.agg (msgC X26).toArray : Value) from rfl) (oS rfl (Yk.extract (vs := [.agg (msgC X26).toArray, NI 6]) (vr (.tuple #[.agg (msgC X26).toArray, NI 6]) rfl) (show _ = some (NI 6 : Value) from rfl) (oS rfl (Yk.alloc (cs := (msgC ((⟨0, 0, [], [], [], 0, 0, zid, [], [], zid, zid, false, 0⟩, ⟨.slice none 0 0, .slice none 0 0, .slice none 0 0, .slice none 0 0⟩) : MsgV)).toArray) wr15_al29 fun n28 w29 hn30 hb31 hx32 hs33 => ?_))))))
   have hA34 := Ext.refl w27
   have hea35 := hE
   have hz36 := hE.size
   have hlt37 := lte (bl hb8) hn30
   have hE := hE.trans hx32
   have hb8 := eb hx32 hb8
   have hA34 := hA34.trans hx32
   have hb38 := hb31; clear hb31
   have hl39 : n28 < w29.heap.size := by omega
   refine oS rfl (Yk.storeAll (vr (PQ n28 0) rfl) (vr (.agg (msgC X26).toArray) rfl) hb38 (by simp only [List.size_toArray, msg_len]) (st_isz (msg_len _) wr15_isz29) (msg_one (x := X26) (RG.one (hX26r.keep hA34)).2 (RG.one (hX26w.keep hA34)).2 (RG.one (hX26h.keep hA34)).2 (RB.one (hX26b.keep hA34)).2) fun w40 hb41 hg42 hs43 => ?_)
   have hE := row_fresh hE hg42 (Nat.le_trans hz36 (by omega))
   have hb8 := kb hg42 hb8 (by omega)
   have hA34 := row_fresh hA34 hg42 (Nat.le_trans (Nat.le_refl _) (by omega))
   clear hb38
   have hb38 : w40.heap[n28]? = some (.cells (msgC X26).toArray 29 (0, 0)) := hb41; clear hb41
   have hl44 := bl hb38
   refine oA rfl (oZ (tN (hK25 _ _ (sk fun K45 hK45 => (sk fun K46 hK46 => (wt (oM rfl (oS rfl (Yk.eqI (a := (1 : Nat)) (b := (0 : Nat)) rfl rfl (k_eql _ _ _ _) (oM rfl (oN (d := 33) rfl rfl rfl (vr (.bool (false)) (congrArg Value.bool (decide_eq_false (by decide)))) rfl (oN (d := 33) rfl rfl rfl (vr (.bool (false)) (congrArg Value.bool (decide_eq_false (by decide)))) rfl (oN (d := 33) rfl rfl rfl (vr (.bool (false)) (congrArg Value.bool (decide_eq_false (by decide)))) rfl (opsF_offU (d := 36) rfl rfl rfl (vr undef rfl) (opsF_offU (d := 36) rfl rfl rfl (vr undef rfl) (opsF_offU (d := 36) rfl rfl rfl (vr undef rfl) (opsF_offU (d := 36) rfl rfl rfl (vr undef rfl) ?_)))))))))))))))))
   refine oN (d := 33) rfl rfl rfl (vr (.bool (false)) (congrArg Value.bool (decide_eq_false (by decide)))) rfl (oS rfl (Yk.pickF (vr (.bool (false)) (congrArg Value.bool (decide_eq_false (by decide)))) (vr (.bool (false)) rfl) (oZ (tN (hK46 _ _ (wpF_false (vr (.bool (false)) rfl) (wpF_skip (tN (hK45 _ _ (sk fun K47 hK47 => (wt (oM rfl (oS rfl (Yk.callA1 wr15_pl22 T1 ((decode_all _ vb (b) (hrb.keep hE) (by omega)).mono ?_)))))))))))))))
   rintro e w49 ⟨X48, c48, rfl, hX48, hd48, hx48⟩
   refine ⟨_, rfl, ?_⟩
   have hE := hE.trans hx48
   have hb8 := eb hx48 hb8
   have hA34 := hA34.trans hx48
   have hb38 := eb hx48 hb38
   have hX48r := hX48.refs
   have hX48w := hX48.wants
   have hX48h := hX48.haves
   have hX48b := hX48.bytes
   rw [show decP _ = _ from hD] at hd48
   obtain ⟨hc48, hm48⟩ := hd48
   subst hc48
   refine oM rfl (oS rfl (Yk.extract (vs := [.agg (msgC X48).toArray, NI 6]) (vr (.tuple #[.agg (msgC X48).toArray, NI 6]) rfl) (show _ = some (.agg (msgC X48).toArray : Value) from rfl) (oS rfl (Yk.extract (vs := [.agg (msgC X48).toArray, NI 6]) (vr (.tuple #[.agg (msgC X48).toArray, NI 6]) rfl) (show _ = some (NI 6 : Value) from rfl) (oS rfl (Yk.alloc (cs := (msgC ((⟨0, 0, [], [], [], 0, 0, zid, [], [], zid, zid, false, 0⟩, ⟨.slice none 0 0, .slice none 0 0, .slice none 0 0, .slice none 0 0⟩) : MsgV)).toArray) wr15_al29 fun n50 w51 hn52 hb53 hx54 hs55 => ?_))))))
   have hA56 := Ext.refl w49
   have hea57 := hE
   have hea58 := hA34
   have hz59 := hE.size
   have hz60 := hA34.size
   have hlt61 := lte (bl hb8) hn52
   have hlt62 := lte (bl hb38) hn52
   have hE := hE.trans hx54
   have hb8 := eb hx54 hb8
   have hA34 := hA34.trans hx54
   have hb38 := eb hx54 hb38
   have hA56 := hA56.trans hx54
   have hb63 := hb53; clear hb53
   have hl64 : n50 < w51.heap.size := by omega
   refine oS rfl (Yk.storeAll (vr (PQ n50 0) rfl) (vr (.agg (msgC X48).toArray) rfl) hb63 (by simp only [List.size_toArray, msg_len]) (st_isz (msg_len _) wr15_isz29) (msg_one (x := X48) (RG.one (hX48r.keep hA56)).2 (RG.one (hX48w.keep hA56)).2 (RG.one (hX48h.keep hA56)).2 (RB.one (hX48b.keep hA56)).2) fun w65 hb66 hg67 hs68 => ?_)
   have hE := row_fresh hE hg67 (Nat.le_trans hz59 (by omega))
   have hb8 := kb hg67 hb8 (by omega)
   have hA34 := row_fresh hA34 hg67 (Nat.le_trans hz60 (by omega))
   have hb38 := kb hg67 hb38 (by omega)
   have hA56 := row_fresh hA56 hg67 (Nat.le_trans (Nat.le_refl _) (by omega))
   clear hb63
   have hb63 : w65.heap[n50]? = some (.cells (msgC X48).toArray 29 (0, 0)) := hb66; clear hb66
   have hl69 := bl hb63
   refine oA rfl (oL_ [(0, .agg (msgC x).toArray), (1, vb), (2, PQ n2 0), (4, .bool (false)), (5, v21), (6, NI 1), (7, PQ n28 0), (8, NI 6), (9, PQ n50 0), (10, NI 6), (42, .bool (false))] ⟨T0, T1, rfl, rfl, rfl, rfl, rfl, rfl, rfl, rfl, rfl, trivial⟩ fun ρ70 ⟨T0, T1, T2, T4, T5, T6, T7, T8, T9, T10, T42, _⟩ => (tN (hK47 _ _ (sk fun K71 hK71 => (wt (oS rfl (Yk.loadAll T9 hb63 (wr15_ty29).choose_spec rfl (st_isz (msg_len X48) wr15_isz29) (oS rfl (Yk.callA1 wr15_pl16 (vr (.agg (msgC X48).toArray) rfl) ((encode_no _ X48 (MsgAt.mk (hX48r.keep hA56) (hX48w.keep hA56) (hX48h.keep hA56) (hX48b.keep hA56)) (by rw [hm48]; exact nil_lt 0 0) (by rw [hm48]; rfl)).mono ?_))))))))))
   rintro e w75 ⟨v72, rfl, hr73, hx74⟩
   refine ⟨_, rfl, ?_⟩
   have hE := hE.trans hx74
   have hb8 := eb hx74 hb8
   have hA34 := hA34.trans hx74
   have hb38 := eb hx74 hb38
   have hA56 := hA56.trans hx74
   have hb63 := eb hx74 hb63
   refine oM rfl (oS rfl (Yk.extract (vs := [v72, NI 1]) (vr (.tuple #[v72, NI 1]) rfl) (show _ = some (v72 : Value) from rfl) (oS rfl (Yk.extract (vs := [v72, NI 1]) (vr (.tuple #[v72, NI 1]) rfl) (show _ = some (NI 1 : Value) from rfl) (oA rfl (oA rfl (oZ (tN (hK71 _ _ (sk fun K76 hK76 => (wt (oM rfl (oS rfl (Yk.eqI (a := (6 : Nat)) (b := (0 : Nat)) T10 rfl (k_neq _ _ _ _) (oM rfl (oN (d := 55) rfl rfl rfl (vr (.bool (true)) (congrArg Value.bool (decide_eq_true (by decide)))) rfl (oN (d := 55) rfl rfl rfl (vr (.bool (true)) (congrArg Value.bool (decide_eq_true (by decide)))) rfl (oN (d := 55) rfl rfl rfl (vr (.bool (true)) (congrArg Value.bool (decide_eq_true (by decide)))) rfl (opsF_offU (d := 58) rfl rfl rfl (vr undef rfl) ?_)))))))))))))))))))
   refine opsF_offU (d := 58) rfl rfl rfl (vr undef rfl) (opsF_offU (d := 58) rfl rfl rfl (vr undef rfl) (opsF_offU (d := 58) rfl rfl rfl (vr undef rfl) (opsF_offU (d := 58) rfl rfl rfl (vr undef rfl) (oN (d := 55) rfl rfl rfl (vr (.bool (true)) (congrArg Value.bool (decide_eq_true (by decide)))) rfl (oS rfl (Yk.pickT (vr (.bool (true)) (congrArg Value.bool (decide_eq_true (by decide)))) (vr (.bool (true)) rfl) (oM rfl (oY (d := 66) rfl rfl (vr (.bool (true)) rfl) (Yk.callA0 wr15_pl21  ((awake25 _).mono ?_))))))))))
   rintro e w78 ⟨rfl, hx77⟩
   refine ⟨_, rfl, ?_⟩
   have hE := hE.trans hx77
   have hb8 := eb hx77 hb8
   have hA34 := hA34.trans hx77
   have hb38 := eb hx77 hb38
   have hA56 := hA56.trans hx77
   have hb63 := eb hx77 hb63
   have hr73 := hr73.keep hx77
   refine oS rfl (Yk.pickT (vr (.bool (true)) rfl) (vr (.bool (true)) rfl) (oA rfl (oZ (tN (hK76 _ _ (wpF_ret (postF_ret (fn := Tryd.f5) _ rfl [.bool (true)] (.bool (true)) rfl ⟨rfl, trivial⟩ ?_)))))))
   exact ⟨rfl, hE⟩
  have hel := encB_len hR hI
  refine wpF_skip (tN (hK10 _ _ (sk fun K79 hK79 => (wt (oS rfl (Yk.loadAll (vr (PQ n2 0) rfl) hb8 (wr15_ty29).choose_spec rfl (st_isz (msg_len x) wr15_isz29) (oS rfl (Yk.callA1 wr15_pl16 (vr (.agg (msgC x).toArray) rfl) ((encode_yes _ x (MsgAt.mk (hmr.keep hE) (hmw.keep hE) (hmh.keep hE) (hmb.keep hE)) ((lightB_get hL).lt) hR).mono ?_)))))))))
  rintro e w83 ⟨v80, rfl, hr81, hx82⟩
  refine ⟨_, rfl, ?_⟩
  have hE := hE.trans hx82
  have hb8 := eb hx82 hb8
  refine oM rfl (oS rfl (Yk.extract (vs := [v80, NI 0]) (vr (.tuple #[v80, NI 0]) rfl) (show _ = some (v80 : Value) from rfl) (oS rfl (Yk.extract (vs := [v80, NI 0]) (vr (.tuple #[v80, NI 0]) rfl) (show _ = some (NI 0 : Value) from rfl) (oA rfl (oA rfl (oZ (tN (hK79 _ _ (sk fun K84 hK84 => (wt (oM rfl (oS rfl (Yk.callA1 wr15_pl22 (vr v80 rfl) ((decode_all _ v80 (encB x.1) hr81 (by omega)).mono ?_)))))))))))))))
  rintro e w86 ⟨X85, c85, rfl, hX85, hd85, hx85⟩
  refine ⟨_, rfl, ?_⟩
  have hE := hE.trans hx85
  have hb8 := eb hx85 hb8
  have hr81 := hr81.keep hx85
  have hX85r := hX85.refs
  have hX85w := hX85.wants
  have hX85h := hX85.haves
  have hX85b := hX85.bytes
  rw [show decP _ = _ from decP_enc hR hI] at hd85
  obtain ⟨hc85, hm85⟩ := hd85
  subst hc85
  refine oM rfl (oS rfl (Yk.extract (vs := [.agg (msgC X85).toArray, NI 0]) (vr (.tuple #[.agg (msgC X85).toArray, NI 0]) rfl) (show _ = some (.agg (msgC X85).toArray : Value) from rfl) (oS rfl (Yk.extract (vs := [.agg (msgC X85).toArray, NI 0]) (vr (.tuple #[.agg (msgC X85).toArray, NI 0]) rfl) (show _ = some (NI 0 : Value) from rfl) (oS rfl (Yk.alloc (cs := (msgC ((⟨0, 0, [], [], [], 0, 0, zid, [], [], zid, zid, false, 0⟩, ⟨.slice none 0 0, .slice none 0 0, .slice none 0 0, .slice none 0 0⟩) : MsgV)).toArray) wr15_al29 fun n87 w88 hn89 hb90 hx91 hs92 => ?_))))))
  have hA93 := Ext.refl w86
  have hea94 := hE
  have hz95 := hE.size
  have hlt96 := lte (bl hb8) hn89
  have hE := hE.trans hx91
  have hb8 := eb hx91 hb8
  have hA93 := hA93.trans hx91
  have hb97 := hb90; clear hb90
  have hl98 : n87 < w88.heap.size := by omega
  refine oS rfl (Yk.storeAll (vr (PQ n87 0) rfl) (vr (.agg (msgC X85).toArray) rfl) hb97 (by simp only [List.size_toArray, msg_len]) (st_isz (msg_len _) wr15_isz29) (msg_one (x := X85) (RG.one (hX85r.keep hA93)).2 (RG.one (hX85w.keep hA93)).2 (RG.one (hX85h.keep hA93)).2 (RB.one (hX85b.keep hA93)).2) fun w99 hb100 hg101 hs102 => ?_)
  have hE := row_fresh hE hg101 (Nat.le_trans hz95 (by omega))
  have hb8 := kb hg101 hb8 (by omega)
  have hA93 := row_fresh hA93 hg101 (Nat.le_trans (Nat.le_refl _) (by omega))
  clear hb97
  have hb97 : w99.heap[n87]? = some (.cells (msgC X85).toArray 29 (0, 0)) := hb100; clear hb100
  have hl103 := bl hb97
  refine oA rfl (oZ (tN (hK84 _ _ (sk fun K104 hK104 => (sk fun K105 hK105 => (wt (oM rfl (oS rfl (Yk.eqI (a := (0 : Nat)) (b := (0 : Nat)) rfl rfl (k_eql _ _ _ _) (oM rfl (oY (d := 33) rfl rfl (vr (.bool (true)) (congrArg Value.bool (decide_eq_true (rfl)))) (Yk.move (vr (NI 0) rfl) (oY (d := 33) rfl rfl (vr (.bool (true)) (congrArg Value.bool (decide_eq_true (rfl)))) (Yk.eqI (a := (0 : Nat)) (b := (0 : Nat)) rfl rfl (k_neq _ _ _ _) (oY (d := 33) rfl rfl (vr (.bool (true)) (congrArg Value.bool (decide_eq_true (rfl)))) (Yk.move (vr (.bool (false)) (congrArg Value.bool (decide_eq_false (fun h => h rfl)))) (oY (d := 36) rfl rfl (vr (.bool (false)) rfl) (Yk.loadAll (vr (PQ n87 0) rfl) hb97 (wr15_ty29).choose_spec rfl (st_isz (msg_len X85) wr15_isz29) (oY (d := 36) rfl rfl (vr (.bool (false)) rfl) (Yk.loadAll (vr (PQ n2 0) rfl) hb8 (wr15_ty29).choose_spec rfl (st_isz (msg_len x) wr15_isz29) (oY (d := 36) rfl rfl (vr (.bool (false)) rfl) (Yk.callA2 wr15_pl24 (vr (.agg (msgC X85).toArray) rfl) (vr (.agg (msgC x).toArray) rfl) ((same_true _ X85 x (MsgAt.mk (hX85r.keep hA93) (hX85w.keep hA93) (hX85h.keep hA93) (hX85b.keep hA93)) (MsgAt.mk (hmr.keep hE) (hmw.keep hE) (hmh.keep hE) (hmb.keep hE)) (by rw [hm85]; exact (lightB_get hL).lt) hm85).mono ?_)))))))))))))))))))))))
  rintro e w107 ⟨rfl, hx106⟩
  refine ⟨_, rfl, ?_⟩
  have hE := hE.trans hx106
  have hb8 := eb hx106 hb8
  have hA93 := hA93.trans hx106
  have hb97 := eb hx106 hb97
  refine oY (d := 36) rfl rfl (vr (.bool (false)) rfl) (Yk.notB (vr (.bool (true)) rfl) (oY (d := 33) rfl rfl (vr (.bool (true)) (congrArg Value.bool (decide_eq_true (rfl)))) (Yk.pickF (vr (.bool (false)) rfl) (vr (.bool (false)) rfl) (oS rfl (Yk.pickT (vr (.bool (true)) (congrArg Value.bool (decide_eq_true (rfl)))) (vr (.bool (false)) rfl) (oZ (tN (hK105 _ _ (wpF_false (vr (.bool (false)) rfl) (wpF_skip (tN (hK104 _ _ (sk fun K108 hK108 => (wt (oM rfl (oS rfl (Yk.callA1 wr15_pl22 T1 ((decode_all _ vb (b) (hrb.keep hE) (by omega)).mono ?_))))))))))))))))))
  rintro e w110 ⟨X109, c109, rfl, hX109, hd109, hx109⟩
  refine ⟨_, rfl, ?_⟩
  have hE := hE.trans hx109
  have hb8 := eb hx109 hb8
  have hA93 := hA93.trans hx109
  have hb97 := eb hx109 hb97
  have hX109r := hX109.refs
  have hX109w := hX109.wants
  have hX109h := hX109.haves
  have hX109b := hX109.bytes
  rw [show decP _ = _ from hD] at hd109
  obtain ⟨hc109, hm109⟩ := hd109
  subst hc109
  refine oM rfl (oS rfl (Yk.extract (vs := [.agg (msgC X109).toArray, NI 6]) (vr (.tuple #[.agg (msgC X109).toArray, NI 6]) rfl) (show _ = some (.agg (msgC X109).toArray : Value) from rfl) (oS rfl (Yk.extract (vs := [.agg (msgC X109).toArray, NI 6]) (vr (.tuple #[.agg (msgC X109).toArray, NI 6]) rfl) (show _ = some (NI 6 : Value) from rfl) (oS rfl (Yk.alloc (cs := (msgC ((⟨0, 0, [], [], [], 0, 0, zid, [], [], zid, zid, false, 0⟩, ⟨.slice none 0 0, .slice none 0 0, .slice none 0 0, .slice none 0 0⟩) : MsgV)).toArray) wr15_al29 fun n111 w112 hn113 hb114 hx115 hs116 => ?_))))))
  have hA117 := Ext.refl w110
  have hea118 := hE
  have hea119 := hA93
  have hz120 := hE.size
  have hz121 := hA93.size
  have hlt122 := lte (bl hb8) hn113
  have hlt123 := lte (bl hb97) hn113
  have hE := hE.trans hx115
  have hb8 := eb hx115 hb8
  have hA93 := hA93.trans hx115
  have hb97 := eb hx115 hb97
  have hA117 := hA117.trans hx115
  have hb124 := hb114; clear hb114
  have hl125 : n111 < w112.heap.size := by omega
  refine oS rfl (Yk.storeAll (vr (PQ n111 0) rfl) (vr (.agg (msgC X109).toArray) rfl) hb124 (by simp only [List.size_toArray, msg_len]) (st_isz (msg_len _) wr15_isz29) (msg_one (x := X109) (RG.one (hX109r.keep hA117)).2 (RG.one (hX109w.keep hA117)).2 (RG.one (hX109h.keep hA117)).2 (RB.one (hX109b.keep hA117)).2) fun w126 hb127 hg128 hs129 => ?_)
  have hE := row_fresh hE hg128 (Nat.le_trans hz120 (by omega))
  have hb8 := kb hg128 hb8 (by omega)
  have hA93 := row_fresh hA93 hg128 (Nat.le_trans hz121 (by omega))
  have hb97 := kb hg128 hb97 (by omega)
  have hA117 := row_fresh hA117 hg128 (Nat.le_trans (Nat.le_refl _) (by omega))
  clear hb124
  have hb124 : w126.heap[n111]? = some (.cells (msgC X109).toArray 29 (0, 0)) := hb127; clear hb127
  have hl130 := bl hb124
  refine oA rfl (oL_ [(0, .agg (msgC x).toArray), (1, vb), (2, PQ n2 0), (4, .bool (false)), (5, v80), (6, NI 0), (7, PQ n87 0), (8, NI 0), (9, PQ n111 0), (10, NI 6), (42, .bool (false))] ⟨T0, T1, rfl, rfl, rfl, rfl, rfl, rfl, rfl, rfl, rfl, trivial⟩ fun ρ131 ⟨T0, T1, T2, T4, T5, T6, T7, T8, T9, T10, T42, _⟩ => (tN (hK108 _ _ (sk fun K132 hK132 => (wt (oS rfl (Yk.loadAll T9 hb124 (wr15_ty29).choose_spec rfl (st_isz (msg_len X109) wr15_isz29) (oS rfl (Yk.callA1 wr15_pl16 (vr (.agg (msgC X109).toArray) rfl) ((encode_no _ X109 (MsgAt.mk (hX109r.keep hA117) (hX109w.keep hA117) (hX109h.keep hA117) (hX109b.keep hA117)) (by rw [hm109]; exact nil_lt 0 0) (by rw [hm109]; rfl)).mono ?_))))))))))
  rintro e w136 ⟨v133, rfl, hr134, hx135⟩
  refine ⟨_, rfl, ?_⟩
  have hE := hE.trans hx135
  have hb8 := eb hx135 hb8
  have hA93 := hA93.trans hx135
  have hb97 := eb hx135 hb97
  have hA117 := hA117.trans hx135
  have hb124 := eb hx135 hb124
  refine oM rfl (oS rfl (Yk.extract (vs := [v133, NI 1]) (vr (.tuple #[v133, NI 1]) rfl) (show _ = some (v133 : Value) from rfl) (oS rfl (Yk.extract (vs := [v133, NI 1]) (vr (.tuple #[v133, NI 1]) rfl) (show _ = some (NI 1 : Value) from rfl) (oA rfl (oA rfl (oZ (tN (hK132 _ _ (sk fun K137 hK137 => (wt (oM rfl (oS rfl (Yk.eqI (a := (6 : Nat)) (b := (0 : Nat)) T10 rfl (k_neq _ _ _ _) (oM rfl (oN (d := 55) rfl rfl rfl (vr (.bool (true)) (congrArg Value.bool (decide_eq_true (by decide)))) rfl (oN (d := 55) rfl rfl rfl (vr (.bool (true)) (congrArg Value.bool (decide_eq_true (by decide)))) rfl (oN (d := 55) rfl rfl rfl (vr (.bool (true)) (congrArg Value.bool (decide_eq_true (by decide)))) rfl (opsF_offU (d := 58) rfl rfl rfl (vr undef rfl) ?_)))))))))))))))))))
  refine opsF_offU (d := 58) rfl rfl rfl (vr undef rfl) (opsF_offU (d := 58) rfl rfl rfl (vr undef rfl) (opsF_offU (d := 58) rfl rfl rfl (vr undef rfl) (opsF_offU (d := 58) rfl rfl rfl (vr undef rfl) (oN (d := 55) rfl rfl rfl (vr (.bool (true)) (congrArg Value.bool (decide_eq_true (by decide)))) rfl (oS rfl (Yk.pickT (vr (.bool (true)) (congrArg Value.bool (decide_eq_true (by decide)))) (vr (.bool (true)) rfl) (oM rfl (oY (d := 66) rfl rfl (vr (.bool (true)) rfl) (Yk.callA0 wr15_pl21  ((awake25 _).mono ?_))))))))))
  rintro e w139 ⟨rfl, hx138⟩
  refine ⟨_, rfl, ?_⟩
  have hE := hE.trans hx138
  have hb8 := eb hx138 hb8
  have hA93 := hA93.trans hx138
  have hb97 := eb hx138 hb97
  have hA117 := hA117.trans hx138
  have hb124 := eb hx138 hb124
  have hr134 := hr134.keep hx138
  refine oS rfl (Yk.pickT (vr (.bool (true)) rfl) (vr (.bool (true)) rfl) (oA rfl (oZ (tN (hK137 _ _ (wpF_ret (postF_ret (fn := Tryd.f5) _ rfl [.bool (true)] (.bool (true)) rfl ⟨rfl, trivial⟩ ?_)))))))
  exact ⟨rfl, hE⟩
 obtain ⟨hRm, hem, hIm⟩ := decP_back hD
 cases hR : rightB x.1
 ·refine wpF_skip (tN (hK10 _ _ (sk fun K140 hK140 => (wt (oS rfl (Yk.loadAll (vr (PQ n2 0) rfl) hb8 (wr15_ty29).choose_spec rfl (st_isz (msg_len x) wr15_isz29) (oS rfl (Yk.callA1 wr15_pl16 (vr (.agg (msgC x).toArray) rfl) ((encode_no _ x (MsgAt.mk (hmr.keep hE) (hmw.keep hE) (hmh.keep hE) (hmb.keep hE)) ((lightB_get hL).lt) hR).mono ?_)))))))))
  rintro e w144 ⟨v141, rfl, hr142, hx143⟩
  refine ⟨_, rfl, ?_⟩
  have hE := hE.trans hx143
  have hb8 := eb hx143 hb8
  refine oM rfl (oS rfl (Yk.extract (vs := [v141, NI 1]) (vr (.tuple #[v141, NI 1]) rfl) (show _ = some (v141 : Value) from rfl) (oS rfl (Yk.extract (vs := [v141, NI 1]) (vr (.tuple #[v141, NI 1]) rfl) (show _ = some (NI 1 : Value) from rfl) (oA rfl (oA rfl (oZ (tN (hK140 _ _ (sk fun K145 hK145 => (wt (oM rfl (oS rfl (Yk.callA1 wr15_pl22 (vr v141 rfl) ((decode_all _ v141 (([] : List UInt8)) hr142 (by decide)).mono ?_)))))))))))))))
  rintro e w147 ⟨X146, c146, rfl, hX146, hd146, hx146⟩
  refine ⟨_, rfl, ?_⟩
  have hE := hE.trans hx146
  have hb8 := eb hx146 hb8
  have hr142 := hr142.keep hx146
  have hX146r := hX146.refs
  have hX146w := hX146.wants
  have hX146h := hX146.haves
  have hX146b := hX146.bytes
  rw [show decP _ = _ from (rfl : decP [] = none)] at hd146
  obtain ⟨hc146, hm146⟩ := hd146
  subst hc146
  refine oM rfl (oS rfl (Yk.extract (vs := [.agg (msgC X146).toArray, NI 6]) (vr (.tuple #[.agg (msgC X146).toArray, NI 6]) rfl) (show _ = some (.agg (msgC X146).toArray : Value) from rfl) (oS rfl (Yk.extract (vs := [.agg (msgC X146).toArray, NI 6]) (vr (.tuple #[.agg (msgC X146).toArray, NI 6]) rfl) (show _ = some (NI 6 : Value) from rfl) (oS rfl (Yk.alloc (cs := (msgC ((⟨0, 0, [], [], [], 0, 0, zid, [], [], zid, zid, false, 0⟩, ⟨.slice none 0 0, .slice none 0 0, .slice none 0 0, .slice none 0 0⟩) : MsgV)).toArray) wr15_al29 fun n148 w149 hn150 hb151 hx152 hs153 => ?_))))))
  have hA154 := Ext.refl w147
  have hea155 := hE
  have hz156 := hE.size
  have hlt157 := lte (bl hb8) hn150
  have hE := hE.trans hx152
  have hb8 := eb hx152 hb8
  have hA154 := hA154.trans hx152
  have hb158 := hb151; clear hb151
  have hl159 : n148 < w149.heap.size := by omega
  refine oS rfl (Yk.storeAll (vr (PQ n148 0) rfl) (vr (.agg (msgC X146).toArray) rfl) hb158 (by simp only [List.size_toArray, msg_len]) (st_isz (msg_len _) wr15_isz29) (msg_one (x := X146) (RG.one (hX146r.keep hA154)).2 (RG.one (hX146w.keep hA154)).2 (RG.one (hX146h.keep hA154)).2 (RB.one (hX146b.keep hA154)).2) fun w160 hb161 hg162 hs163 => ?_)
  have hE := row_fresh hE hg162 (Nat.le_trans hz156 (by omega))
  have hb8 := kb hg162 hb8 (by omega)
  have hA154 := row_fresh hA154 hg162 (Nat.le_trans (Nat.le_refl _) (by omega))
  clear hb158
  have hb158 : w160.heap[n148]? = some (.cells (msgC X146).toArray 29 (0, 0)) := hb161; clear hb161
  have hl164 := bl hb158
  refine oA rfl (oZ (tN (hK145 _ _ (sk fun K165 hK165 => (sk fun K166 hK166 => (wt (oM rfl (oS rfl (Yk.eqI (a := (1 : Nat)) (b := (0 : Nat)) rfl rfl (k_eql _ _ _ _) (oM rfl (oN (d := 33) rfl rfl rfl (vr (.bool (false)) (congrArg Value.bool (decide_eq_false (by decide)))) rfl (oN (d := 33) rfl rfl rfl (vr (.bool (false)) (congrArg Value.bool (decide_eq_false (by decide)))) rfl (oN (d := 33) rfl rfl rfl (vr (.bool (false)) (congrArg Value.bool (decide_eq_false (by decide)))) rfl (opsF_offU (d := 36) rfl rfl rfl (vr undef rfl) (opsF_offU (d := 36) rfl rfl rfl (vr undef rfl) (opsF_offU (d := 36) rfl rfl rfl (vr undef rfl) (opsF_offU (d := 36) rfl rfl rfl (vr undef rfl) ?_)))))))))))))))))
  refine oN (d := 33) rfl rfl rfl (vr (.bool (false)) (congrArg Value.bool (decide_eq_false (by decide)))) rfl (oS rfl (Yk.pickF (vr (.bool (false)) (congrArg Value.bool (decide_eq_false (by decide)))) (vr (.bool (false)) rfl) (oZ (tN (hK166 _ _ (wpF_false (vr (.bool (false)) rfl) (wpF_skip (tN (hK165 _ _ (sk fun K167 hK167 => (wt (oM rfl (oS rfl (Yk.callA1 wr15_pl22 T1 ((decode_all _ vb (b) (hrb.keep hE) (by omega)).mono ?_)))))))))))))))
  rintro e w169 ⟨X168, c168, rfl, hX168, hd168, hx168⟩
  refine ⟨_, rfl, ?_⟩
  have hE := hE.trans hx168
  have hb8 := eb hx168 hb8
  have hA154 := hA154.trans hx168
  have hb158 := eb hx168 hb158
  have hX168r := hX168.refs
  have hX168w := hX168.wants
  have hX168h := hX168.haves
  have hX168b := hX168.bytes
  rw [show decP _ = _ from hD] at hd168
  obtain ⟨hc168, hm168⟩ := hd168
  subst hc168
  refine oM rfl (oS rfl (Yk.extract (vs := [.agg (msgC X168).toArray, NI 0]) (vr (.tuple #[.agg (msgC X168).toArray, NI 0]) rfl) (show _ = some (.agg (msgC X168).toArray : Value) from rfl) (oS rfl (Yk.extract (vs := [.agg (msgC X168).toArray, NI 0]) (vr (.tuple #[.agg (msgC X168).toArray, NI 0]) rfl) (show _ = some (NI 0 : Value) from rfl) (oS rfl (Yk.alloc (cs := (msgC ((⟨0, 0, [], [], [], 0, 0, zid, [], [], zid, zid, false, 0⟩, ⟨.slice none 0 0, .slice none 0 0, .slice none 0 0, .slice none 0 0⟩) : MsgV)).toArray) wr15_al29 fun n170 w171 hn172 hb173 hx174 hs175 => ?_))))))
  have hA176 := Ext.refl w169
  have hea177 := hE
  have hea178 := hA154
  have hz179 := hE.size
  have hz180 := hA154.size
  have hlt181 := lte (bl hb8) hn172
  have hlt182 := lte (bl hb158) hn172
  have hE := hE.trans hx174
  have hb8 := eb hx174 hb8
  have hA154 := hA154.trans hx174
  have hb158 := eb hx174 hb158
  have hA176 := hA176.trans hx174
  have hb183 := hb173; clear hb173
  have hl184 : n170 < w171.heap.size := by omega
  refine oS rfl (Yk.storeAll (vr (PQ n170 0) rfl) (vr (.agg (msgC X168).toArray) rfl) hb183 (by simp only [List.size_toArray, msg_len]) (st_isz (msg_len _) wr15_isz29) (msg_one (x := X168) (RG.one (hX168r.keep hA176)).2 (RG.one (hX168w.keep hA176)).2 (RG.one (hX168h.keep hA176)).2 (RB.one (hX168b.keep hA176)).2) fun w185 hb186 hg187 hs188 => ?_)
  have hE := row_fresh hE hg187 (Nat.le_trans hz179 (by omega))
  have hb8 := kb hg187 hb8 (by omega)
  have hA154 := row_fresh hA154 hg187 (Nat.le_trans hz180 (by omega))
  have hb158 := kb hg187 hb158 (by omega)
  have hA176 := row_fresh hA176 hg187 (Nat.le_trans (Nat.le_refl _) (by omega))
  clear hb183
  have hb183 : w185.heap[n170]? = some (.cells (msgC X168).toArray 29 (0, 0)) := hb186; clear hb186
  have hl189 := bl hb183
  refine oA rfl (oL_ [(0, .agg (msgC x).toArray), (1, vb), (2, PQ n2 0), (4, .bool (false)), (5, v141), (6, NI 1), (7, PQ n148 0), (8, NI 6), (9, PQ n170 0), (10, NI 0), (42, .bool (false))] ⟨T0, T1, rfl, rfl, rfl, rfl, rfl, rfl, rfl, rfl, rfl, trivial⟩ fun ρ190 ⟨T0, T1, T2, T4, T5, T6, T7, T8, T9, T10, T42, _⟩ => (tN (hK167 _ _ (sk fun K191 hK191 => (wt (oS rfl (Yk.loadAll T9 hb183 (wr15_ty29).choose_spec rfl (st_isz (msg_len X168) wr15_isz29) (oS rfl (Yk.callA1 wr15_pl16 (vr (.agg (msgC X168).toArray) rfl) ((encode_yes _ X168 (MsgAt.mk (hX168r.keep hA176) (hX168w.keep hA176) (hX168h.keep hA176) (hX168b.keep hA176)) (by rw [hm168]; exact rightB_lt hRm) (by rw [hm168]; exact hRm)).mono ?_))))))))))
  rintro e w195 ⟨v192, rfl, hr193, hx194⟩
  refine ⟨_, rfl, ?_⟩
  have hE := hE.trans hx194
  have hb8 := eb hx194 hb8
  have hA154 := hA154.trans hx194
  have hb158 := eb hx194 hb158
  have hA176 := hA176.trans hx194
  have hb183 := eb hx194 hb183
  refine oM rfl (oS rfl (Yk.extract (vs := [v192, NI 0]) (vr (.tuple #[v192, NI 0]) rfl) (show _ = some (v192 : Value) from rfl) (oS rfl (Yk.extract (vs := [v192, NI 0]) (vr (.tuple #[v192, NI 0]) rfl) (show _ = some (NI 0 : Value) from rfl) (oA rfl (oA rfl (oZ (tN (hK191 _ _ (sk fun K196 hK196 => (wt (oM rfl (oS rfl (Yk.eqI (a := (0 : Nat)) (b := (0 : Nat)) T10 rfl (k_neq _ _ _ _) (oM rfl (oY (d := 55) rfl rfl (vr (.bool (false)) (congrArg Value.bool (decide_eq_false (fun h => h rfl)))) (Yk.move (vr (NI 0) rfl) (oY (d := 55) rfl rfl (vr (.bool (false)) (congrArg Value.bool (decide_eq_false (fun h => h rfl)))) (Yk.eqI (a := (0 : Nat)) (b := (0 : Nat)) rfl rfl (k_eql _ _ _ _) (oY (d := 55) rfl rfl (vr (.bool (false)) (congrArg Value.bool (decide_eq_false (fun h => h rfl)))) (Yk.move (vr (.bool (true)) (congrArg Value.bool (decide_eq_true (rfl)))) (oY (d := 58) rfl rfl (vr (.bool (true)) rfl) (Yk.move (vr v192 rfl) ?_)))))))))))))))))))))))
  refine oY (d := 58) rfl rfl (vr (.bool (true)) rfl) (Yk.convRB wr15_ty26 wr15_ty5 wr15_ty9 (RB.of hr193 (vr v192 rfl)) (oY (d := 58) rfl rfl (vr (.bool (true)) rfl) (Yk.move T1 (oY (d := 58) rfl rfl (vr (.bool (true)) rfl) (Yk.convRB wr15_ty26 wr15_ty5 wr15_ty9 (RB.of (hrb.keep hE) (vr vb rfl)) (oY (d := 58) rfl rfl (vr (.bool (true)) rfl) (Yk.eqSt (l := encB X168.1) (m := b) (.inl rfl) (vr (St (encB X168.1)) rfl) (vr (St (b)) rfl) (decide ((encB X168.1 : List UInt8) = b)) rfl (oY (d := 55) rfl rfl (vr (.bool (false)) (congrArg Value.bool (decide_eq_false (fun h => h rfl)))) (Yk.pickT (vr (.bool (true)) rfl) (vr (.bool (true)) (congrArg Value.bool (decide_eq_true (by rw [hm168]; exact hem)))) (oS rfl (Yk.pickF (vr (.bool (false)) (congrArg Value.bool (decide_eq_false (fun h => h rfl)))) (vr (.bool (true)) rfl) (oM rfl (oY (d := 66) rfl rfl (vr (.bool (true)) rfl) (Yk.callA0 wr15_pl21  ((awake25 _).mono ?_)))))))))))))))
  rintro e w198 ⟨rfl, hx197⟩
  refine ⟨_, rfl, ?_⟩
  have hE := hE.trans hx197
  have hb8 := eb hx197 hb8
  have hA154 := hA154.trans hx197
  have hb158 := eb hx197 hb158
  have hA176 := hA176.trans hx197
  have hb183 := eb hx197 hb183
  have hr193 := hr193.keep hx197
  refine oS rfl (Yk.pickT (vr (.bool (true)) rfl) (vr (.bool (true)) rfl) (oA rfl (oZ (tN (hK196 _ _ (wpF_ret (postF_ret (fn := Tryd.f5) _ rfl [.bool (true)] (.bool (true)) rfl ⟨rfl, trivial⟩ ?_)))))))
  exact ⟨rfl, hE⟩
 have hel := encB_len hR hI
 refine wpF_skip (tN (hK10 _ _ (sk fun K199 hK199 => (wt (oS rfl (Yk.loadAll (vr (PQ n2 0) rfl) hb8 (wr15_ty29).choose_spec rfl (st_isz (msg_len x) wr15_isz29) (oS rfl (Yk.callA1 wr15_pl16 (vr (.agg (msgC x).toArray) rfl) ((encode_yes _ x (MsgAt.mk (hmr.keep hE) (hmw.keep hE) (hmh.keep hE) (hmb.keep hE)) ((lightB_get hL).lt) hR).mono ?_)))))))))
 rintro e w203 ⟨v200, rfl, hr201, hx202⟩
 refine ⟨_, rfl, ?_⟩
 have hE := hE.trans hx202
 have hb8 := eb hx202 hb8
 refine oM rfl (oS rfl (Yk.extract (vs := [v200, NI 0]) (vr (.tuple #[v200, NI 0]) rfl) (show _ = some (v200 : Value) from rfl) (oS rfl (Yk.extract (vs := [v200, NI 0]) (vr (.tuple #[v200, NI 0]) rfl) (show _ = some (NI 0 : Value) from rfl) (oA rfl (oA rfl (oZ (tN (hK199 _ _ (sk fun K204 hK204 => (wt (oM rfl (oS rfl (Yk.callA1 wr15_pl22 (vr v200 rfl) ((decode_all _ v200 (encB x.1) hr201 (by omega)).mono ?_)))))))))))))))
 rintro e w206 ⟨X205, c205, rfl, hX205, hd205, hx205⟩
 refine ⟨_, rfl, ?_⟩
 have hE := hE.trans hx205
 have hb8 := eb hx205 hb8
 have hr201 := hr201.keep hx205
 have hX205r := hX205.refs
 have hX205w := hX205.wants
 have hX205h := hX205.haves
 have hX205b := hX205.bytes
 rw [show decP _ = _ from decP_enc hR hI] at hd205
 obtain ⟨hc205, hm205⟩ := hd205
 subst hc205
 refine oM rfl (oS rfl (Yk.extract (vs := [.agg (msgC X205).toArray, NI 0]) (vr (.tuple #[.agg (msgC X205).toArray, NI 0]) rfl) (show _ = some (.agg (msgC X205).toArray : Value) from rfl) (oS rfl (Yk.extract (vs := [.agg (msgC X205).toArray, NI 0]) (vr (.tuple #[.agg (msgC X205).toArray, NI 0]) rfl) (show _ = some (NI 0 : Value) from rfl) (oS rfl (Yk.alloc (cs := (msgC ((⟨0, 0, [], [], [], 0, 0, zid, [], [], zid, zid, false, 0⟩, ⟨.slice none 0 0, .slice none 0 0, .slice none 0 0, .slice none 0 0⟩) : MsgV)).toArray) wr15_al29 fun n207 w208 hn209 hb210 hx211 hs212 => ?_))))))
 have hA213 := Ext.refl w206
 have hea214 := hE
 have hz215 := hE.size
 have hlt216 := lte (bl hb8) hn209
 have hE := hE.trans hx211
 have hb8 := eb hx211 hb8
 have hA213 := hA213.trans hx211
 have hb217 := hb210; clear hb210
 have hl218 : n207 < w208.heap.size := by omega
 refine oS rfl (Yk.storeAll (vr (PQ n207 0) rfl) (vr (.agg (msgC X205).toArray) rfl) hb217 (by simp only [List.size_toArray, msg_len]) (st_isz (msg_len _) wr15_isz29) (msg_one (x := X205) (RG.one (hX205r.keep hA213)).2 (RG.one (hX205w.keep hA213)).2 (RG.one (hX205h.keep hA213)).2 (RB.one (hX205b.keep hA213)).2) fun w219 hb220 hg221 hs222 => ?_)
 have hE := row_fresh hE hg221 (Nat.le_trans hz215 (by omega))
 have hb8 := kb hg221 hb8 (by omega)
 have hA213 := row_fresh hA213 hg221 (Nat.le_trans (Nat.le_refl _) (by omega))
 clear hb217
 have hb217 : w219.heap[n207]? = some (.cells (msgC X205).toArray 29 (0, 0)) := hb220; clear hb220
 have hl223 := bl hb217
 refine oA rfl (oZ (tN (hK204 _ _ (sk fun K224 hK224 => (sk fun K225 hK225 => (wt (oM rfl (oS rfl (Yk.eqI (a := (0 : Nat)) (b := (0 : Nat)) rfl rfl (k_eql _ _ _ _) (oM rfl (oY (d := 33) rfl rfl (vr (.bool (true)) (congrArg Value.bool (decide_eq_true (rfl)))) (Yk.move (vr (NI 0) rfl) (oY (d := 33) rfl rfl (vr (.bool (true)) (congrArg Value.bool (decide_eq_true (rfl)))) (Yk.eqI (a := (0 : Nat)) (b := (0 : Nat)) rfl rfl (k_neq _ _ _ _) (oY (d := 33) rfl rfl (vr (.bool (true)) (congrArg Value.bool (decide_eq_true (rfl)))) (Yk.move (vr (.bool (false)) (congrArg Value.bool (decide_eq_false (fun h => h rfl)))) (oY (d := 36) rfl rfl (vr (.bool (false)) rfl) (Yk.loadAll (vr (PQ n207 0) rfl) hb217 (wr15_ty29).choose_spec rfl (st_isz (msg_len X205) wr15_isz29) (oY (d := 36) rfl rfl (vr (.bool (false)) rfl) (Yk.loadAll (vr (PQ n2 0) rfl) hb8 (wr15_ty29).choose_spec rfl (st_isz (msg_len x) wr15_isz29) (oY (d := 36) rfl rfl (vr (.bool (false)) rfl) (Yk.callA2 wr15_pl24 (vr (.agg (msgC X205).toArray) rfl) (vr (.agg (msgC x).toArray) rfl) ((same_true _ X205 x (MsgAt.mk (hX205r.keep hA213) (hX205w.keep hA213) (hX205h.keep hA213) (hX205b.keep hA213)) (MsgAt.mk (hmr.keep hE) (hmw.keep hE) (hmh.keep hE) (hmb.keep hE)) (by rw [hm205]; exact (lightB_get hL).lt) hm205).mono ?_)))))))))))))))))))))))
 rintro e w227 ⟨rfl, hx226⟩
 refine ⟨_, rfl, ?_⟩
 have hE := hE.trans hx226
 have hb8 := eb hx226 hb8
 have hA213 := hA213.trans hx226
 have hb217 := eb hx226 hb217
 refine oY (d := 36) rfl rfl (vr (.bool (false)) rfl) (Yk.notB (vr (.bool (true)) rfl) (oY (d := 33) rfl rfl (vr (.bool (true)) (congrArg Value.bool (decide_eq_true (rfl)))) (Yk.pickF (vr (.bool (false)) rfl) (vr (.bool (false)) rfl) (oS rfl (Yk.pickT (vr (.bool (true)) (congrArg Value.bool (decide_eq_true (rfl)))) (vr (.bool (false)) rfl) (oZ (tN (hK225 _ _ (wpF_false (vr (.bool (false)) rfl) (wpF_skip (tN (hK224 _ _ (sk fun K228 hK228 => (wt (oM rfl (oS rfl (Yk.callA1 wr15_pl22 T1 ((decode_all _ vb (b) (hrb.keep hE) (by omega)).mono ?_))))))))))))))))))
 rintro e w230 ⟨X229, c229, rfl, hX229, hd229, hx229⟩
 refine ⟨_, rfl, ?_⟩
 have hE := hE.trans hx229
 have hb8 := eb hx229 hb8
 have hA213 := hA213.trans hx229
 have hb217 := eb hx229 hb217
 have hX229r := hX229.refs
 have hX229w := hX229.wants
 have hX229h := hX229.haves
 have hX229b := hX229.bytes
 rw [show decP _ = _ from hD] at hd229
 obtain ⟨hc229, hm229⟩ := hd229
 subst hc229
 refine oM rfl (oS rfl (Yk.extract (vs := [.agg (msgC X229).toArray, NI 0]) (vr (.tuple #[.agg (msgC X229).toArray, NI 0]) rfl) (show _ = some (.agg (msgC X229).toArray : Value) from rfl) (oS rfl (Yk.extract (vs := [.agg (msgC X229).toArray, NI 0]) (vr (.tuple #[.agg (msgC X229).toArray, NI 0]) rfl) (show _ = some (NI 0 : Value) from rfl) (oS rfl (Yk.alloc (cs := (msgC ((⟨0, 0, [], [], [], 0, 0, zid, [], [], zid, zid, false, 0⟩, ⟨.slice none 0 0, .slice none 0 0, .slice none 0 0, .slice none 0 0⟩) : MsgV)).toArray) wr15_al29 fun n231 w232 hn233 hb234 hx235 hs236 => ?_))))))
 have hA237 := Ext.refl w230
 have hea238 := hE
 have hea239 := hA213
 have hz240 := hE.size
 have hz241 := hA213.size
 have hlt242 := lte (bl hb8) hn233
 have hlt243 := lte (bl hb217) hn233
 have hE := hE.trans hx235
 have hb8 := eb hx235 hb8
 have hA213 := hA213.trans hx235
 have hb217 := eb hx235 hb217
 have hA237 := hA237.trans hx235
 have hb244 := hb234; clear hb234
 have hl245 : n231 < w232.heap.size := by omega
 refine oS rfl (Yk.storeAll (vr (PQ n231 0) rfl) (vr (.agg (msgC X229).toArray) rfl) hb244 (by simp only [List.size_toArray, msg_len]) (st_isz (msg_len _) wr15_isz29) (msg_one (x := X229) (RG.one (hX229r.keep hA237)).2 (RG.one (hX229w.keep hA237)).2 (RG.one (hX229h.keep hA237)).2 (RB.one (hX229b.keep hA237)).2) fun w246 hb247 hg248 hs249 => ?_)
 have hE := row_fresh hE hg248 (Nat.le_trans hz240 (by omega))
 have hb8 := kb hg248 hb8 (by omega)
 have hA213 := row_fresh hA213 hg248 (Nat.le_trans hz241 (by omega))
 have hb217 := kb hg248 hb217 (by omega)
 have hA237 := row_fresh hA237 hg248 (Nat.le_trans (Nat.le_refl _) (by omega))
 clear hb244
 have hb244 : w246.heap[n231]? = some (.cells (msgC X229).toArray 29 (0, 0)) := hb247; clear hb247
 have hl250 := bl hb244
 refine oA rfl (oL_ [(0, .agg (msgC x).toArray), (1, vb), (2, PQ n2 0), (4, .bool (false)), (5, v200), (6, NI 0), (7, PQ n207 0), (8, NI 0), (9, PQ n231 0), (10, NI 0), (42, .bool (false))] ⟨T0, T1, rfl, rfl, rfl, rfl, rfl, rfl, rfl, rfl, rfl, trivial⟩ fun ρ251 ⟨T0, T1, T2, T4, T5, T6, T7, T8, T9, T10, T42, _⟩ => (tN (hK228 _ _ (sk fun K252 hK252 => (wt (oS rfl (Yk.loadAll T9 hb244 (wr15_ty29).choose_spec rfl (st_isz (msg_len X229) wr15_isz29) (oS rfl (Yk.callA1 wr15_pl16 (vr (.agg (msgC X229).toArray) rfl) ((encode_yes _ X229 (MsgAt.mk (hX229r.keep hA237) (hX229w.keep hA237) (hX229h.keep hA237) (hX229b.keep hA237)) (by rw [hm229]; exact rightB_lt hRm) (by rw [hm229]; exact hRm)).mono ?_))))))))))
 rintro e w256 ⟨v253, rfl, hr254, hx255⟩
 refine ⟨_, rfl, ?_⟩
 have hE := hE.trans hx255
 have hb8 := eb hx255 hb8
 have hA213 := hA213.trans hx255
 have hb217 := eb hx255 hb217
 have hA237 := hA237.trans hx255
 have hb244 := eb hx255 hb244
 refine oM rfl (oS rfl (Yk.extract (vs := [v253, NI 0]) (vr (.tuple #[v253, NI 0]) rfl) (show _ = some (v253 : Value) from rfl) (oS rfl (Yk.extract (vs := [v253, NI 0]) (vr (.tuple #[v253, NI 0]) rfl) (show _ = some (NI 0 : Value) from rfl) (oA rfl (oA rfl (oZ (tN (hK252 _ _ (sk fun K257 hK257 => (wt (oM rfl (oS rfl (Yk.eqI (a := (0 : Nat)) (b := (0 : Nat)) T10 rfl (k_neq _ _ _ _) (oM rfl (oY (d := 55) rfl rfl (vr (.bool (false)) (congrArg Value.bool (decide_eq_false (fun h => h rfl)))) (Yk.move (vr (NI 0) rfl) (oY (d := 55) rfl rfl (vr (.bool (false)) (congrArg Value.bool (decide_eq_false (fun h => h rfl)))) (Yk.eqI (a := (0 : Nat)) (b := (0 : Nat)) rfl rfl (k_eql _ _ _ _) (oY (d := 55) rfl rfl (vr (.bool (false)) (congrArg Value.bool (decide_eq_false (fun h => h rfl)))) (Yk.move (vr (.bool (true)) (congrArg Value.bool (decide_eq_true (rfl)))) (oY (d := 58) rfl rfl (vr (.bool (true)) rfl) (Yk.move (vr v253 rfl) ?_)))))))))))))))))))))))
 refine oY (d := 58) rfl rfl (vr (.bool (true)) rfl) (Yk.convRB wr15_ty26 wr15_ty5 wr15_ty9 (RB.of hr254 (vr v253 rfl)) (oY (d := 58) rfl rfl (vr (.bool (true)) rfl) (Yk.move T1 (oY (d := 58) rfl rfl (vr (.bool (true)) rfl) (Yk.convRB wr15_ty26 wr15_ty5 wr15_ty9 (RB.of (hrb.keep hE) (vr vb rfl)) (oY (d := 58) rfl rfl (vr (.bool (true)) rfl) (Yk.eqSt (l := encB X229.1) (m := b) (.inl rfl) (vr (St (encB X229.1)) rfl) (vr (St (b)) rfl) (decide ((encB X229.1 : List UInt8) = b)) rfl (oY (d := 55) rfl rfl (vr (.bool (false)) (congrArg Value.bool (decide_eq_false (fun h => h rfl)))) (Yk.pickT (vr (.bool (true)) rfl) (vr (.bool (true)) (congrArg Value.bool (decide_eq_true (by rw [hm229]; exact hem)))) (oS rfl (Yk.pickF (vr (.bool (false)) (congrArg Value.bool (decide_eq_false (fun h => h rfl)))) (vr (.bool (true)) rfl) (oM rfl (oY (d := 66) rfl rfl (vr (.bool (true)) rfl) (Yk.callA0 wr15_pl21  ((awake25 _).mono ?_)))))))))))))))
 rintro e w259 ⟨rfl, hx258⟩
 refine ⟨_, rfl, ?_⟩
 have hE := hE.trans hx258
 have hb8 := eb hx258 hb8
 have hA213 := hA213.trans hx258
 have hb217 := eb hx258 hb217
 have hA237 := hA237.trans hx258
 have hb244 := eb hx258 hb244
 have hr254 := hr254.keep hx258
 refine oS rfl (Yk.pickT (vr (.bool (true)) rfl) (vr (.bool (true)) rfl) (oA rfl (oZ (tN (hK257 _ _ (wpF_ret (postF_ret (fn := Tryd.f5) _ rfl [.bool (true)] (.bool (true)) rfl ⟨rfl, trivial⟩ ?_)))))))
 exact ⟨rfl, hE⟩
end Go.Proofs.YtmonlobfofkbdaaDoor
