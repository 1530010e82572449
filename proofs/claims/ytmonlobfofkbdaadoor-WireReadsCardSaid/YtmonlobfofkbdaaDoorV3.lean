/- Part 3 of what stands behind these statements: laws and walks of the functions that are reached. Conditions: those that each theorem names. -/
import Derived.Test.YtmonlobfofkbdaaDoorV2
set_option linter.unusedVariables false
set_option linter.unusedSimpArgs false
namespace Go.Proofs.YtmonlobfofkbdaaDoor
open Go.RowKit
set_option maxRecDepth 100000
theorem C8:Tryd.prog.underlying 93=some (.map 5 92):=by kernel_rfl
theorem KB(z0:Bool)(w:World):(Instr.build 92 #[(0, .bool z0)]).run Tryd.prog w = .ok (.agg #[.bool z0, .bool false, .bool false, .bool false, .bool false, .bool false, .bool false, .bool false]) w:=by kernel_rfl
theorem Lz(z0:Bool)(w:World):(Instr.build 92 #[(0, .bool z0)]).run Tryd.prog w = .ok (.agg (.bool (z0) :: (.bool (false) :: (.bool (false) :: (.bool (false) :: (.bool (false) :: (.bool (false) :: (.bool (false) :: (.bool (false) :: ([]))))))))).toArray) w:=by
 exact KB _ w
theorem KC(z1:Bool)(w:World):(Instr.build 92 #[(1, .bool z1)]).run Tryd.prog w = .ok (.agg #[.bool false, .bool z1, .bool false, .bool false, .bool false, .bool false, .bool false, .bool false]) w:=by kernel_rfl
theorem LA(z1:Bool)(w:World):(Instr.build 92 #[(1, .bool z1)]).run Tryd.prog w = .ok (.agg (.bool (false) :: (.bool (z1) :: (.bool (false) :: (.bool (false) :: (.bool (false) :: (.bool (false) :: (.bool (false) :: (.bool (false) :: ([]))))))))).toArray) w:=by
 exact KC _ w
theorem Jq(z2:Bool)(z4:Bool)(w:World):(Instr.build 92 #[(2, .bool z2),(4, .bool z4)]).run Tryd.prog w = .ok (.agg #[.bool false, .bool false, .bool z2, .bool false, .bool z4, .bool false, .bool false, .bool false]) w:=by kernel_rfl
theorem JZ(z2:Bool)(z4:Bool)(w:World):(Instr.build 92 #[(2, .bool z2),(4, .bool z4)]).run Tryd.prog w = .ok (.agg (.bool (false) :: (.bool (false) :: (.bool (z2) :: (.bool (false) :: (.bool (z4) :: (.bool (false) :: (.bool (false) :: (.bool (false) :: ([]))))))))).toArray) w:=by
 exact Jq _ _ w
theorem KD(z3:Bool)(w:World):(Instr.build 92 #[(3, .bool z3)]).run Tryd.prog w = .ok (.agg #[.bool false, .bool false, .bool false, .bool z3, .bool false, .bool false, .bool false, .bool false]) w:=by kernel_rfl
theorem LB(z3:Bool)(w:World):(Instr.build 92 #[(3, .bool z3)]).run Tryd.prog w = .ok (.agg (.bool (false) :: (.bool (false) :: (.bool (false) :: (.bool (z3) :: (.bool (false) :: (.bool (false) :: (.bool (false) :: (.bool (false) :: ([]))))))))).toArray) w:=by
 exact KD _ w
theorem Jr(z3:Bool)(z5:Bool)(w:World):(Instr.build 92 #[(3, .bool z3),(5, .bool z5)]).run Tryd.prog w = .ok (.agg #[.bool false, .bool false, .bool false, .bool z3, .bool false, .bool z5, .bool false, .bool false]) w:=by kernel_rfl
theorem J0(z3:Bool)(z5:Bool)(w:World):(Instr.build 92 #[(3, .bool z3),(5, .bool z5)]).run Tryd.prog w = .ok (.agg (.bool (false) :: (.bool (false) :: (.bool (false) :: (.bool (z3) :: (.bool (false) :: (.bool (z5) :: (.bool (false) :: (.bool (false) :: ([]))))))))).toArray) w:=by
 exact Jr _ _ w
theorem HY(z2:Bool)(z4:Bool)(z6:Bool)(w:World):(Instr.build 92 #[(2, .bool z2),(4, .bool z4),(6, .bool z6)]).run Tryd.prog w = .ok (.agg #[.bool false, .bool false, .bool z2, .bool false, .bool z4, .bool false, .bool z6, .bool false]) w:=by kernel_rfl
theorem Iv(z2:Bool)(z4:Bool)(z6:Bool)(w:World):(Instr.build 92 #[(2, .bool z2),(4, .bool z4),(6, .bool z6)]).run Tryd.prog w = .ok (.agg (.bool (false) :: (.bool (false) :: (.bool (z2) :: (.bool (false) :: (.bool (z4) :: (.bool (false) :: (.bool (z6) :: (.bool (false) :: ([]))))))))).toArray) w:=by
 exact HY _ _ _ w
theorem KE(z7:Bool)(w:World):(Instr.build 92 #[(7, .bool z7)]).run Tryd.prog w = .ok (.agg #[.bool false, .bool false, .bool false, .bool false, .bool false, .bool false, .bool false, .bool z7]) w:=by kernel_rfl
theorem LC(z7:Bool)(w:World):(Instr.build 92 #[(7, .bool z7)]).run Tryd.prog w = .ok (.agg (.bool (false) :: (.bool (false) :: (.bool (false) :: (.bool (false) :: (.bool (false) :: (.bool (false) :: (.bool (false) :: (.bool (z7) :: ([]))))))))).toArray) w:=by
 exact KE _ w
theorem LD:A5 Tryd.prog 92 0 0:=fun b o w=>by simp[go_sem]
theorem De:Tryd.prog.underlying 4=some (.bool):=by kernel_rfl
theorem H0:A5 Tryd.prog 29 2 2:=fun b o w=>by simp[go_sem]
theorem LE:A5 Tryd.prog 92 1 1:=fun b o w=>by simp[go_sem]
theorem H1:A5 Tryd.prog 29 3 3:=fun b o w=>by simp[go_sem]
theorem H2:A5 Tryd.prog 29 4 4:=fun b o w=>by simp[go_sem]
theorem LF:A5 Tryd.prog 92 2 2:=fun b o w=>by simp[go_sem]
theorem H3:A5 Tryd.prog 29 5 5:=fun b o w=>by simp[go_sem]
theorem FI:Tryd.prog.underlying 3=some (.int .i64):=by kernel_rfl
theorem LG:A5 Tryd.prog 92 3 3:=fun b o w=>by simp[go_sem]
theorem H4:A5 Tryd.prog 29 6 6:=fun b o w=>by simp[go_sem]
theorem LH:A5 Tryd.prog 92 4 4:=fun b o w=>by simp[go_sem]
theorem LI:A5 Tryd.prog 29 7 7:=fun b o w=>by simp[go_sem]
theorem H5:A5 Tryd.prog 92 5 5:=fun b o w=>by simp[go_sem]
theorem FT:A5 Tryd.prog 29 8 39:=fun b o w=>by simp[go_sem]
theorem H6:A5 Tryd.prog 92 6 6:=fun b o w=>by simp[go_sem]
theorem H7:A5 Tryd.prog 29 9 40:=fun b o w=>by simp[go_sem]
theorem KF:A5 Tryd.prog 29 10 41:=fun b o w=>by simp[go_sem]
theorem G8:A5 Tryd.prog 29 11 73:=fun b o w=>by simp[go_sem]
theorem KG:A5 Tryd.prog 29 12 105:=fun b o w=>by simp[go_sem]
theorem LJ:A5 Tryd.prog 92 7 7:=fun b o w=>by simp[go_sem]
theorem G9:A5 Tryd.prog 29 13 106:=fun b o w=>by simp[go_sem]
theorem J1:Tryd.prog.underlying 27=some (.int .i64):=by kernel_rfl
theorem J2:AN Tryd.prog 50:=fun _ _=>by kernel_rfl
theorem H8:A5 Tryd.prog 29 0 0:=fun b o w=>by simp[go_sem]
theorem J3{d:Option Tmp}{ty:TypeId}{pos:String}{af:Array Edge}{gd:Option (Nat × Bool)}(σ:Operand→Value)(w:World):(execOp σ ⟨d, .alloc 92,ty,pos,af,gd⟩).run Tryd.prog w = .ok (.value (PQ w.heap.size 0)) (w.alloc (.cells (partsC (⟨false,false,false,false,false,false,false,false⟩:Ai)).toArray 92)):=by kernel_rfl
theorem Gt:(Tryd.prog.info? 92).map (·.size)=some 8:=by kernel_rfl
theorem LK:A5 Tryd.prog 29 1 1:=fun b o w=>by simp[go_sem]
theorem FU:AN Tryd.prog 55:=fun _ _=>by kernel_rfl
theorem Nr:∃fs,Tryd.prog.underlying 29=some (.struct fs):=Fh (by kernel_rfl)
theorem Mr:(Tryd.prog.info? 29).map (·.size)=some 107:=by kernel_rfl
theorem Ns:∃fs,Tryd.prog.underlying 92=some (.struct fs):=Fh (by kernel_rfl)
theorem Nt:AN Tryd.prog 56:=fun _ _=>by kernel_rfl
theorem Nu:AN Tryd.prog 57:=fun _ _=>by kernel_rfl
theorem J4:AN Tryd.prog 58:=fun _ _=>by kernel_rfl
set_option maxHeartbeats 1600000
theorem Cs(w:World):
  Calls Tryd.prog 50 #[] w fun e w' =>∃b,e = .returned (.map (some b))∧MapF B8 AH (fun _:UInt8=>True) w' b AV∧Ext w w' ∧FQ w w' :=by
 refine calls_of_wpF (args:= []) Tryd.func50 rfl 11 rfl (Nat.le_of_ble_eq_true rfl) ?_
 intro am hb
 clear hb
 have hE:=Ext.refl w
 refine sk fun K1 q=>(wt (oA rfl (oZ (tN (q _ _ (sk fun K2 r=>(wt (oS rfl (Yk.mkMap B8 AH (fun _:UInt8=>True) fun a s ap p t aq=> ?_)))))))))
 have hE:=hE.trans t
 have ar:a<s.heap.size:=by omega
 refine oS rfl (Yk.run (v:= .agg (partsC (⟨false,false,false,false,false,false,false,false⟩:Ai)).toArray) (by kernel_rfl) (oS rfl (Yk.insM (ek:=B8) (ev:=AH) (D:=(fun _:UInt8=>True)) (c:=(⟨false,false,false,false,false,false,false,false⟩:Ai)) CE CF C8 (vr (.map (some a)) rfl) (vr (B8 (1)) rfl) (vr (.agg (partsC (⟨false,false,false,false,false,false,false,false⟩:Ai)).toArray) rfl) p trivial fun u f x au=> ?_)))
 have hE:=Ae hE x (Nat.le_trans (Nat.le_refl _) (by omega))
 clear p
 have av:a<u.heap.size:=f.lt
 refine oS rfl (Yk.build1 (vr (.bool (true)) rfl) (fun w=>Lz true w) (oS rfl (Yk.insM (ek:=B8) (ev:=AH) (D:=(fun _:UInt8=>True)) (c:=(⟨true,false,false,false,false,false,false,false⟩:Ai)) CE CF C8 (vr (.map (some a)) rfl) (vr (B8 (2)) rfl) (vr (.agg (partsC (⟨true,false,false,false,false,false,false,false⟩:Ai)).toArray) rfl) f trivial fun y g z aw=> ?_)))
 have hE:=Ae hE z (Nat.le_trans (Nat.le_refl _) (by omega))
 clear f
 have ax:a<y.heap.size:=g.lt
 refine oS rfl (Yk.build1 (vr (.bool (true)) rfl) (fun w=>LA true w) (oS rfl (Yk.insM (ek:=B8) (ev:=AH) (D:=(fun _:UInt8=>True)) (c:=(⟨false,true,false,false,false,false,false,false⟩:Ai)) CE CF C8 (vr (.map (some a)) rfl) (vr (B8 (3)) rfl) (vr (.agg (partsC (⟨false,true,false,false,false,false,false,false⟩:Ai)).toArray) rfl) g trivial fun aa h ab ay=> ?_)))
 have hE:=Ae hE ab (Nat.le_trans (Nat.le_refl _) (by omega))
 clear g
 have az:a<aa.heap.size:=h.lt
 refine oS rfl (Yk.build2 (vr (.bool (true)) rfl) (vr (.bool (true)) rfl) (fun w=>JZ true true w) (oS rfl (Yk.insM (ek:=B8) (ev:=AH) (D:=(fun _:UInt8=>True)) (c:=(⟨false,false,true,false,true,false,false,false⟩:Ai)) CE CF C8 (vr (.map (some a)) rfl) (vr (B8 (4)) rfl) (vr (.agg (partsC (⟨false,false,true,false,true,false,false,false⟩:Ai)).toArray) rfl) h trivial fun ac j ad a0=> ?_)))
 have hE:=Ae hE ad (Nat.le_trans (Nat.le_refl _) (by omega))
 clear h
 have a1:a<ac.heap.size:=j.lt
 refine oS rfl (Yk.build1 (vr (.bool (true)) rfl) (fun w=>LB true w) (oS rfl (Yk.insM (ek:=B8) (ev:=AH) (D:=(fun _:UInt8=>True)) (c:=(⟨false,false,false,true,false,false,false,false⟩:Ai)) CE CF C8 (vr (.map (some a)) rfl) (vr (B8 (5)) rfl) (vr (.agg (partsC (⟨false,false,false,true,false,false,false,false⟩:Ai)).toArray) rfl) j trivial fun ae k af a2=> ?_)))
 have hE:=Ae hE af (Nat.le_trans (Nat.le_refl _) (by omega))
 clear j
 have a3:a<ae.heap.size:=k.lt
 refine oS rfl (Yk.build2 (vr (.bool (true)) rfl) (vr (.bool (true)) rfl) (fun w=>J0 true true w) (oS rfl (Yk.insM (ek:=B8) (ev:=AH) (D:=(fun _:UInt8=>True)) (c:=(⟨false,false,false,true,false,true,false,false⟩:Ai)) CE CF C8 (vr (.map (some a)) rfl) (vr (B8 (6)) rfl) (vr (.agg (partsC (⟨false,false,false,true,false,true,false,false⟩:Ai)).toArray) rfl) k trivial fun ag l ah a4=> ?_)))
 have hE:=Ae hE ah (Nat.le_trans (Nat.le_refl _) (by omega))
 clear k
 have a5:a<ag.heap.size:=l.lt
 refine oS rfl (Yk.build3 (vr (.bool (true)) rfl) (vr (.bool (true)) rfl) (vr (.bool (true)) rfl) (fun w=>Iv true true true w) (oS rfl (Yk.insM (ek:=B8) (ev:=AH) (D:=(fun _:UInt8=>True)) (c:=(⟨false,false,true,false,true,false,true,false⟩:Ai)) CE CF C8 (vr (.map (some a)) rfl) (vr (B8 (7)) rfl) (vr (.agg (partsC (⟨false,false,true,false,true,false,true,false⟩:Ai)).toArray) rfl) l trivial fun ai m aj a6=> ?_)))
 have hE:=Ae hE aj (Nat.le_trans (Nat.le_refl _) (by omega))
 clear l
 have a7:a<ai.heap.size:=m.lt
 refine oS rfl (Yk.build1 (vr (.bool (true)) rfl) (fun w=>LC true w) (oS rfl (Yk.insM (ek:=B8) (ev:=AH) (D:=(fun _:UInt8=>True)) (c:=(⟨false,false,false,false,false,false,false,true⟩:Ai)) CE CF C8 (vr (.map (some a)) rfl) (vr (B8 (8)) rfl) (vr (.agg (partsC (⟨false,false,false,false,false,false,false,true⟩:Ai)).toArray) rfl) m trivial fun ak n al a8=> ?_)))
 have hE:=Ae hE al (Nat.le_trans (Nat.le_refl _) (by omega))
 clear m
 have a9:a<ak.heap.size:=n.lt
 refine oM rfl (oA rfl (oZ (tN (r _ _ (Ao (An (fn:=Tryd.f50) _ rfl [.map (some a)] (.map (some a)) rfl ⟨rfl,trivial⟩ ?_))))))
 refine⟨_,rfl,n,hE,fun i o hi ho=> ?_⟩
 have hb_:=(bl ho)
 obtain rfl:i=a:=by omega
 obtain⟨es,c,hc⟩:=MapF.isMapB n
 rw[hc]at ho
 exact⟨es,c,(Option.some.inj ho).symm⟩

theorem LL(w:World)(x:Ah)(hm:MsgAt w x)(p:Ai):
  Calls Tryd.prog 56 #[.agg (msgC x).toArray, .agg (partsC p).toArray] w fun e w' =>e = .returned (.bool (CG x.1 p))∧Ext w w' :=by
 have hmr:=hm.refs
 have hmw:=hm.wants
 have hmh:=hm.haves
 have hmb:=hm.bytes
 refine calls_of_wpF (args:= [.agg (msgC x).toArray, .agg (partsC p).toArray]) Tryd.func56 rfl 99 rfl (Nat.le_of_ble_eq_true rfl) ?_
 intro q hb
 have i:q 0=(.agg (msgC x).toArray:Value):=hb.get 0
 have j:q 1=(.agg (partsC p).toArray:Value):=hb.get 1
 clear hb
 have hE:=Ext.refl w
 refine sk fun K1 v=>(wt (oS rfl (Yk.box (cs:=(msgC x:List Value).toArray) i fun c y af r z ag=> ?_)))
 have hE:=hE.trans z
 have g:=r;clear r
 have ah:c<y.heap.size:=by omega
 refine oS rfl (Yk.box (cs:=(partsC p:List Value).toArray) j fun f aa ab s t ai=> ?_)
 have aj:=hE.size
 have ak:=Bo (bl g) ab
 have hE:=hE.trans t
 have g:=eb t g
 have h:=s;clear s
 have al:f<aa.heap.size:=by omega
 refine oA rfl (oZ (tN (v _ _ (sk fun am ac=>(wt (oS rfl (Yk.fieldAt LD (vr (PQ f 0) rfl) (oS rfl (Yk.cell1 De rfl (vr (PQ f 0) rfl) (Ab h (show(partsC p)[0]? =some (.bool (p.refs):Value)from BW p)) (oM rfl (Ad (PQ c 2) rfl rfl (gF (vr (.bool (p.refs)) rfl)) (fun hG23=>Yk.fieldAt H0 (vr (PQ c 0) rfl) ⟨rfl,rfl⟩) (Ad (x.2.refs) rfl rfl (gF (vr (.bool (p.refs)) rfl)) (fun hG24=>Yk.cell1 CJ rfl (mayT (vr (cond (!p.refs) (PQ c 2) undef) rfl) hG24) (Ab g (show(msgC x)[2]? =some (x.2.refs:Value)from BF x)) ⟨rfl,rfl⟩) (Ad (NI ((x.1.refs).length)) rfl rfl (gF (vr (.bool (p.refs)) rfl)) (fun hG25=>Yk.lenRG CJ (RG.of (hmr.keep hE) (mayT (vr (cond (!p.refs) (x.2.refs) undef) rfl) hG25)) ⟨rfl,rfl⟩) (Ad (.bool (decide (((x.1.refs).length:Nat)=(0)))) rfl rfl (gF (vr (.bool (p.refs)) rfl)) (fun hG26=>Yk.eqI (a:=(((x.1.refs).length:Nat):Int)) (b:=((0:Nat):Int)) (mayT (vr (cond (!p.refs) (NI ((x.1.refs).length)) undef) rfl) hG26) (vr (NI 0) rfl) (k_eql _ .i64 ((x.1.refs).length) (0)) ⟨rfl,rfl⟩) (oS rfl (Yk.pickOrN (vr (.bool (p.refs)) rfl) (vr (.bool (true)) rfl) (fun hA=>(mayT (vr (cond (!p.refs) (.bool (decide (((x.1.refs).length:Nat)=(0)))) undef) rfl) (not_i hA))) fun bb27 hbb28=>(oM rfl (Ad (PQ f 1) rfl rfl (gT (vr (.bool (bb27)) rfl)) (fun hG29=>Yk.fieldAt LE (vr (PQ f 0) rfl) ⟨rfl,rfl⟩) (Ad (.bool (p.ids)) rfl rfl (gT (vr (.bool (bb27)) rfl)) (fun hG30=>Yk.cell1 De rfl (mayT (vr (cond (bb27) (PQ f 1) undef) rfl) hG30) (Ab h (show(partsC p)[1]? =some (.bool (p.ids):Value)from BX p)) ⟨rfl,rfl⟩) ?_)))))))))))))))))))
 refine Ad (.bool (p.ids)) rfl rfl (gT (vr (.bool (bb27)) rfl)) (fun hG31=>Yk.move (mayT (vr (cond (bb27) (.bool (p.ids)) undef) rfl) hG31) ⟨rfl,rfl⟩) (Ad (PQ c 3) rfl rfl (Br (vr (cond (bb27) (.bool (p.ids)) undef) rfl)) (fun hG32=>Yk.fieldAt H1 (vr (PQ c 0) rfl) ⟨rfl,rfl⟩) (Ad (x.2.wants) rfl rfl (Br (vr (cond (bb27) (.bool (p.ids)) undef) rfl)) (fun hG33=>Yk.cell1 Bw rfl (mayT (vr (cond (bb27&& !p.ids) (PQ c 3) undef) rfl) hG33) (Ab g (show(msgC x)[3]? =some (x.2.wants:Value)from DE x)) ⟨rfl,rfl⟩) (Ad (NI ((x.1.wants).length)) rfl rfl (Br (vr (cond (bb27) (.bool (p.ids)) undef) rfl)) (fun hG34=>Yk.lenRG Bw (RG.of (hmw.keep hE) (mayT (vr (cond (bb27&& !p.ids) (x.2.wants) undef) rfl) hG34)) ⟨rfl,rfl⟩) (Ad (.bool (decide (((x.1.wants).length:Nat)=(0)))) rfl rfl (Br (vr (cond (bb27) (.bool (p.ids)) undef) rfl)) (fun hG35=>Yk.eqI (a:=(((x.1.wants).length:Nat):Int)) (b:=((0:Nat):Int)) (mayT (vr (cond (bb27&& !p.ids) (NI ((x.1.wants).length)) undef) rfl) hG35) (vr (NI 0) rfl) (k_eql _ .i64 ((x.1.wants).length) (0)) ⟨rfl,rfl⟩) (Ad (.bool (decide (((x.1.wants).length:Nat)=(0)))) rfl rfl (Br (vr (cond (bb27) (.bool (p.ids)) undef) rfl)) (fun hG36=>Yk.move (mayT (vr (cond (bb27&& !p.ids) (.bool (decide (((x.1.wants).length:Nat)=(0)))) undef) rfl) hG36) ⟨rfl,rfl⟩) (Ad (PQ c 4) rfl rfl (geT (vr (cond (bb27&& !p.ids) (.bool (decide (((x.1.wants).length:Nat)=(0)))) undef) rfl)) (fun hG37=>Yk.fieldAt H2 (vr (PQ c 0) rfl) ⟨rfl,rfl⟩) (Ad (x.2.haves) rfl rfl (geT (vr (cond (bb27&& !p.ids) (.bool (decide (((x.1.wants).length:Nat)=(0)))) undef) rfl)) (fun hG38=>Yk.cell1 Bw rfl (mayT (vr (cond ((bb27&& !p.ids)&&(decide (((x.1.wants).length:Nat)=(0)))) (PQ c 4) undef) rfl) hG38) (Ab g (show(msgC x)[4]? =some (x.2.haves:Value)from DF x)) ⟨rfl,rfl⟩) (Ad (NI ((x.1.haves).length)) rfl rfl (geT (vr (cond (bb27&& !p.ids) (.bool (decide (((x.1.wants).length:Nat)=(0)))) undef) rfl)) (fun hG39=>Yk.lenRG Bw (RG.of (hmh.keep hE) (mayT (vr (cond ((bb27&& !p.ids)&&(decide (((x.1.wants).length:Nat)=(0)))) (x.2.haves) undef) rfl) hG39)) ⟨rfl,rfl⟩) (Ad (.bool (decide (((x.1.haves).length:Nat)=(0)))) rfl rfl (geT (vr (cond (bb27&& !p.ids) (.bool (decide (((x.1.wants).length:Nat)=(0)))) undef) rfl)) (fun hG40=>Yk.eqI (a:=(((x.1.haves).length:Nat):Int)) (b:=((0:Nat):Int)) (mayT (vr (cond ((bb27&& !p.ids)&&(decide (((x.1.wants).length:Nat)=(0)))) (NI ((x.1.haves).length)) undef) rfl) hG40) (vr (NI 0) rfl) (k_eql _ .i64 ((x.1.haves).length) (0)) ⟨rfl,rfl⟩) (Bt ((decide (((x.1.wants).length:Nat)=(0)))&&(decide (((x.1.haves).length:Nat)=(0)))) rfl rfl (Br (vr (cond (bb27) (.bool (p.ids)) undef) rfl)) (fun hG41=>Yk.pickAnd (mayT (vr (cond (bb27&& !p.ids) (.bool (decide (((x.1.wants).length:Nat)=(0)))) undef) rfl) hG41) (fun hA=>(mayT (vr (cond ((bb27&& !p.ids)&&(decide (((x.1.wants).length:Nat)=(0)))) (.bool (decide (((x.1.haves).length:Nat)=(0)))) undef) rfl) (Cc hG41 hA))) (vr (.bool (false)) rfl) ⟨rfl,rfl⟩) fun bb42 hbb43=> ?_))))))))))
 refine Bt (p.ids||bb42) rfl rfl (gT (vr (.bool (bb27)) rfl)) (fun hG44=>Yk.pickOr (mayT (vr (cond (bb27) (.bool (p.ids)) undef) rfl) hG44) (vr (.bool (true)) rfl) (fun hA=>(mayT (vr (cond (bb27&& !p.ids) (.bool (bb42)) undef) rfl) (Cc hG44 (not_i hA)))) ⟨rfl,rfl⟩) fun bb45 hbb46=>(oS rfl (Yk.pickAndN (vr (.bool (bb27)) rfl) (fun hA=>(mayT (vr (cond (bb27) (.bool (bb45)) undef) rfl) hA)) (vr (.bool (false)) rfl) fun bb47 hbb48=>(oM rfl (Ad (PQ f 2) rfl rfl (gT (vr (.bool (bb47)) rfl)) (fun hG49=>Yk.fieldAt LF (vr (PQ f 0) rfl) ⟨rfl,rfl⟩) (Ad (.bool (p.size)) rfl rfl (gT (vr (.bool (bb47)) rfl)) (fun hG50=>Yk.cell1 De rfl (mayT (vr (cond (bb47) (PQ f 2) undef) rfl) hG50) (Ab h (show(partsC p)[2]? =some (.bool (p.size):Value)from BY p)) ⟨rfl,rfl⟩) (Ad (.bool (p.size)) rfl rfl (gT (vr (.bool (bb47)) rfl)) (fun hG51=>Yk.move (mayT (vr (cond (bb47) (.bool (p.size)) undef) rfl) hG51) ⟨rfl,rfl⟩) (Ad (PQ c 5) rfl rfl (Br (vr (cond (bb47) (.bool (p.size)) undef) rfl)) (fun hG52=>Yk.fieldAt H3 (vr (PQ c 0) rfl) ⟨rfl,rfl⟩) (Ad (.int .i64 (x.1.size:Int)) rfl rfl (Br (vr (cond (bb47) (.bool (p.size)) undef) rfl)) (fun hG53=>Yk.cell1 FI rfl (mayT (vr (cond (bb47&& !p.size) (PQ c 5) undef) rfl) hG53) (Ab g (show(msgC x)[5]? =some (.int .i64 (x.1.size:Int):Value)from Dq x)) ⟨rfl,rfl⟩) (Ad (.bool (decide ((x.1.size:Int)=((0:Nat):Int)))) rfl rfl (Br (vr (cond (bb47) (.bool (p.size)) undef) rfl)) (fun hG54=>Yk.eqI (mayT (vr (cond (bb47&& !p.size) (.int .i64 (x.1.size:Int)) undef) rfl) hG54) (vr (NI 0) rfl) (FN _ .i64 (x.1.size:Int) ((0:Nat):Int)) ⟨rfl,rfl⟩) (Bt (p.size||(decide ((x.1.size:Int)=((0:Nat):Int)))) rfl rfl (gT (vr (.bool (bb47)) rfl)) (fun hG55=>Yk.pickOr (mayT (vr (cond (bb47) (.bool (p.size)) undef) rfl) hG55) (vr (.bool (true)) rfl) (fun hA=>(mayT (vr (cond (bb47&& !p.size) (.bool (decide ((x.1.size:Int)=((0:Nat):Int)))) undef) rfl) (Cc hG55 (not_i hA)))) ⟨rfl,rfl⟩) fun bb56 hbb57=>(oS rfl (Yk.pickAndN (vr (.bool (bb47)) rfl) (fun hA=>(mayT (vr (cond (bb47) (.bool (bb56)) undef) rfl) hA)) (vr (.bool (false)) rfl) fun bb58 hbb59=>(oM rfl (Ad (PQ f 3) rfl rfl (gT (vr (.bool (bb58)) rfl)) (fun hG60=>Yk.fieldAt LG (vr (PQ f 0) rfl) ⟨rfl,rfl⟩) (Ad (.bool (p.at_)) rfl rfl (gT (vr (.bool (bb58)) rfl)) (fun hG61=>Yk.cell1 De rfl (mayT (vr (cond (bb58) (PQ f 3) undef) rfl) hG61) (Ab h (show(partsC p)[3]? =some (.bool (p.at_):Value)from BZ p)) ⟨rfl,rfl⟩) (Ad (.bool (p.at_)) rfl rfl (gT (vr (.bool (bb58)) rfl)) (fun hG62=>Yk.move (mayT (vr (cond (bb58) (.bool (p.at_)) undef) rfl) hG62) ⟨rfl,rfl⟩) (Ad (PQ c 6) rfl rfl (Br (vr (cond (bb58) (.bool (p.at_)) undef) rfl)) (fun hG63=>Yk.fieldAt H4 (vr (PQ c 0) rfl) ⟨rfl,rfl⟩) ?_)))))))))))))))))
 refine Ad (.int .i64 (x.1.at_:Int)) rfl rfl (Br (vr (cond (bb58) (.bool (p.at_)) undef) rfl)) (fun hG64=>Yk.cell1 FI rfl (mayT (vr (cond (bb58&& !p.at_) (PQ c 6) undef) rfl) hG64) (Ab g (show(msgC x)[6]? =some (.int .i64 (x.1.at_:Int):Value)from Dr x)) ⟨rfl,rfl⟩) (Ad (.bool (decide ((x.1.at_:Int)=((0:Nat):Int)))) rfl rfl (Br (vr (cond (bb58) (.bool (p.at_)) undef) rfl)) (fun hG65=>Yk.eqI (mayT (vr (cond (bb58&& !p.at_) (.int .i64 (x.1.at_:Int)) undef) rfl) hG65) (vr (NI 0) rfl) (FN _ .i64 (x.1.at_:Int) ((0:Nat):Int)) ⟨rfl,rfl⟩) (Bt (p.at_||(decide ((x.1.at_:Int)=((0:Nat):Int)))) rfl rfl (gT (vr (.bool (bb58)) rfl)) (fun hG66=>Yk.pickOr (mayT (vr (cond (bb58) (.bool (p.at_)) undef) rfl) hG66) (vr (.bool (true)) rfl) (fun hA=>(mayT (vr (cond (bb58&& !p.at_) (.bool (decide ((x.1.at_:Int)=((0:Nat):Int)))) undef) rfl) (Cc hG66 (not_i hA)))) ⟨rfl,rfl⟩) fun bb67 hbb68=>(oS rfl (Yk.pickAndN (vr (.bool (bb58)) rfl) (fun hA=>(mayT (vr (cond (bb58) (.bool (bb67)) undef) rfl) hA)) (vr (.bool (false)) rfl) fun bb69 hbb70=>(oM rfl (Ad (PQ f 4) rfl rfl (gT (vr (.bool (bb69)) rfl)) (fun hG71=>Yk.fieldAt LH (vr (PQ f 0) rfl) ⟨rfl,rfl⟩) (Ad (.bool (p.id)) rfl rfl (gT (vr (.bool (bb69)) rfl)) (fun hG72=>Yk.cell1 De rfl (mayT (vr (cond (bb69) (PQ f 4) undef) rfl) hG72) (Ab h (show(partsC p)[4]? =some (.bool (p.id):Value)from B0 p)) ⟨rfl,rfl⟩) (Ad (.bool (p.id)) rfl rfl (gT (vr (.bool (bb69)) rfl)) (fun hG73=>Yk.move (mayT (vr (cond (bb69) (.bool (p.id)) undef) rfl) hG73) ⟨rfl,rfl⟩) (Ad (PQ c 7) rfl rfl (Br (vr (cond (bb69) (.bool (p.id)) undef) rfl)) (fun hG74=>Yk.fieldAt LI (vr (PQ c 0) rfl) ⟨rfl,rfl⟩) (Ad (AB x.1.id.1) rfl rfl (Br (vr (cond (bb69) (.bool (p.id)) undef) rfl)) (fun hG75=>Yk.loadPR (PR.blk g (CM x) (CV x) (mayT (vr (cond (bb69&& !p.id) (PQ c 7) undef) rfl) hG75)) NV rfl (Aw x.1.id.2) ⟨rfl,rfl⟩) (Bd (.bool (zeroB x.1.id)) rfl rfl (Br (vr (cond (bb69) (.bool (p.id)) undef) rfl)) (fun hG76=>Yk.callA1 Hj (mayT (vr (cond (bb69&& !p.id) (AB x.1.id.1) undef) rfl) hG76) ((DH _ x.1.id).mono (by rintro e u ⟨rfl,hx⟩;exact⟨_,rfl,rfl,hx⟩))) fun an k=> ?_)))))))))))
 have hE:=hE.trans k
 have g:=eb k g
 have h:=eb k h
 refine Bt (p.id||(zeroB x.1.id)) rfl rfl (gT (vr (.bool (bb69)) rfl)) (fun hG80=>Yk.pickOr (mayT (vr (cond (bb69) (.bool (p.id)) undef) rfl) hG80) (vr (.bool (true)) rfl) (fun hA=>(mayT (vr (cond (bb69&& !p.id) (.bool (zeroB x.1.id)) undef) rfl) (Cc hG80 (not_i hA)))) ⟨rfl,rfl⟩) fun bb81 hbb82=>(oS rfl (Yk.pickAndN (vr (.bool (bb69)) rfl) (fun hA=>(mayT (vr (cond (bb69) (.bool (bb81)) undef) rfl) hA)) (vr (.bool (false)) rfl) fun bb83 hbb84=>(oM rfl (Ad (PQ f 5) rfl rfl (gT (vr (.bool (bb83)) rfl)) (fun hG85=>Yk.fieldAt H5 (vr (PQ f 0) rfl) ⟨rfl,rfl⟩) (Ad (.bool (p.bytes)) rfl rfl (gT (vr (.bool (bb83)) rfl)) (fun hG86=>Yk.cell1 De rfl (mayT (vr (cond (bb83) (PQ f 5) undef) rfl) hG86) (Ab h (show(partsC p)[5]? =some (.bool (p.bytes):Value)from BP p)) ⟨rfl,rfl⟩) (Ad (.bool (p.bytes)) rfl rfl (gT (vr (.bool (bb83)) rfl)) (fun hG87=>Yk.move (mayT (vr (cond (bb83) (.bool (p.bytes)) undef) rfl) hG87) ⟨rfl,rfl⟩) (Ad (PQ c 39) rfl rfl (Br (vr (cond (bb83) (.bool (p.bytes)) undef) rfl)) (fun hG88=>Yk.fieldAt FT (vr (PQ c 0) rfl) ⟨rfl,rfl⟩) (Ad (x.2.bytes) rfl rfl (Br (vr (cond (bb83) (.bool (p.bytes)) undef) rfl)) (fun hG89=>Yk.cell1 El rfl (mayT (vr (cond (bb83&& !p.bytes) (PQ c 39) undef) rfl) hG89) (Ab g (show(msgC x)[39]? =some (x.2.bytes:Value)from Ds x)) ⟨rfl,rfl⟩) (Ad (NI ((x.1.bytes:List UInt8).length)) rfl rfl (Br (vr (cond (bb83) (.bool (p.bytes)) undef) rfl)) (fun hG90=>Yk.lenRB El (RB.of (hmb.keep hE) (mayT (vr (cond (bb83&& !p.bytes) (x.2.bytes) undef) rfl) hG90)) ⟨rfl,rfl⟩) (Ad (.bool (decide (((x.1.bytes:List UInt8).length:Nat)=(0)))) rfl rfl (Br (vr (cond (bb83) (.bool (p.bytes)) undef) rfl)) (fun hG91=>Yk.eqI (a:=(((x.1.bytes:List UInt8).length:Nat):Int)) (b:=((0:Nat):Int)) (mayT (vr (cond (bb83&& !p.bytes) (NI ((x.1.bytes:List UInt8).length)) undef) rfl) hG91) (vr (NI 0) rfl) (k_eql _ .i64 ((x.1.bytes:List UInt8).length) (0)) ⟨rfl,rfl⟩) (Bt (p.bytes||(decide (((x.1.bytes:List UInt8).length:Nat)=(0)))) rfl rfl (gT (vr (.bool (bb83)) rfl)) (fun hG92=>Yk.pickOr (mayT (vr (cond (bb83) (.bool (p.bytes)) undef) rfl) hG92) (vr (.bool (true)) rfl) (fun hA=>(mayT (vr (cond (bb83&& !p.bytes) (.bool (decide (((x.1.bytes:List UInt8).length:Nat)=(0)))) undef) rfl) (Cc hG92 (not_i hA)))) ⟨rfl,rfl⟩) fun bb93 hbb94=>(oS rfl (Yk.pickAndN (vr (.bool (bb83)) rfl) (fun hA=>(mayT (vr (cond (bb83) (.bool (bb93)) undef) rfl) hA)) (vr (.bool (false)) rfl) fun bb95 hbb96=>(oM rfl (Ad (PQ f 6) rfl rfl (gT (vr (.bool (bb95)) rfl)) (fun hG97=>Yk.fieldAt H6 (vr (PQ f 0) rfl) ⟨rfl,rfl⟩) (Ad (.bool (p.push)) rfl rfl (gT (vr (.bool (bb95)) rfl)) (fun hG98=>Yk.cell1 De rfl (mayT (vr (cond (bb95) (PQ f 6) undef) rfl) hG98) (Ab h (show(partsC p)[6]? =some (.bool (p.push):Value)from BQ p)) ⟨rfl,rfl⟩) ?_))))))))))))))))
 refine Ad (.bool (p.push)) rfl rfl (gT (vr (.bool (bb95)) rfl)) (fun hG99=>Yk.move (mayT (vr (cond (bb95) (.bool (p.push)) undef) rfl) hG99) ⟨rfl,rfl⟩) (Ad (PQ c 40) rfl rfl (Br (vr (cond (bb95) (.bool (p.push)) undef) rfl)) (fun hG100=>Yk.fieldAt H7 (vr (PQ c 0) rfl) ⟨rfl,rfl⟩) (Ad (St (x.1.name)) rfl rfl (Br (vr (cond (bb95) (.bool (p.push)) undef) rfl)) (fun hG101=>Yk.cell1 CD rfl (mayT (vr (cond (bb95&& !p.push) (PQ c 40) undef) rfl) hG101) (Ab g (show(msgC x)[40]? =some (St (x.1.name):Value)from Ee x)) ⟨rfl,rfl⟩) (Ad (.bool (decide ((x.1.name:List UInt8)=(([]:List UInt8):List UInt8)))) rfl rfl (Br (vr (cond (bb95) (.bool (p.push)) undef) rfl)) (fun hG102=>Yk.eqSt (l:=x.1.name) (m:=([]:List UInt8)) (.inl rfl) (mayT (vr (cond (bb95&& !p.push) (St (x.1.name)) undef) rfl) hG102) (vr (St (([]:List UInt8))) rfl) (decide ((x.1.name:List UInt8)=(([]:List UInt8):List UInt8))) rfl ⟨rfl,rfl⟩) (Ad (.bool (decide ((x.1.name:List UInt8)=(([]:List UInt8):List UInt8)))) rfl rfl (Br (vr (cond (bb95) (.bool (p.push)) undef) rfl)) (fun hG103=>Yk.move (mayT (vr (cond (bb95&& !p.push) (.bool (decide ((x.1.name:List UInt8)=(([]:List UInt8):List UInt8)))) undef) rfl) hG103) ⟨rfl,rfl⟩) (Ad (PQ c 41) rfl rfl (geT (vr (cond (bb95&& !p.push) (.bool (decide ((x.1.name:List UInt8)=(([]:List UInt8):List UInt8)))) undef) rfl)) (fun hG104=>Yk.fieldAt KF (vr (PQ c 0) rfl) ⟨rfl,rfl⟩) (Ad (AB x.1.old.1) rfl rfl (geT (vr (cond (bb95&& !p.push) (.bool (decide ((x.1.name:List UInt8)=(([]:List UInt8):List UInt8)))) undef) rfl)) (fun hG105=>Yk.loadPR (PR.blk g (Dz x) (DP x) (mayT (vr (cond ((bb95&& !p.push)&&(decide ((x.1.name:List UInt8)=(([]:List UInt8):List UInt8)))) (PQ c 41) undef) rfl) hG105)) NV rfl (Aw x.1.old.2) ⟨rfl,rfl⟩) (Bd (.bool (zeroB x.1.old)) rfl rfl (geT (vr (cond (bb95&& !p.push) (.bool (decide ((x.1.name:List UInt8)=(([]:List UInt8):List UInt8)))) undef) rfl)) (fun hG106=>Yk.callA1 Hj (mayT (vr (cond ((bb95&& !p.push)&&(decide ((x.1.name:List UInt8)=(([]:List UInt8):List UInt8)))) (AB x.1.old.1) undef) rfl) hG106) ((DH _ x.1.old).mono (by rintro e u ⟨rfl,hx⟩;exact⟨_,rfl,rfl,hx⟩))) fun ao n=> ?_)))))))
 have hE:=hE.trans n
 have g:=eb n g
 have h:=eb n h
 refine Bt ((decide ((x.1.name:List UInt8)=(([]:List UInt8):List UInt8)))&&(zeroB x.1.old)) rfl rfl (Br (vr (cond (bb95) (.bool (p.push)) undef) rfl)) (fun hG110=>Yk.pickAnd (mayT (vr (cond (bb95&& !p.push) (.bool (decide ((x.1.name:List UInt8)=(([]:List UInt8):List UInt8)))) undef) rfl) hG110) (fun hA=>(mayT (vr (cond ((bb95&& !p.push)&&(decide ((x.1.name:List UInt8)=(([]:List UInt8):List UInt8)))) (.bool (zeroB x.1.old)) undef) rfl) (Cc hG110 hA))) (vr (.bool (false)) rfl) ⟨rfl,rfl⟩) fun bb111 hbb112=>(Ad (.bool (bb111)) rfl rfl (Br (vr (cond (bb95) (.bool (p.push)) undef) rfl)) (fun hG113=>Yk.move (mayT (vr (cond (bb95&& !p.push) (.bool (bb111)) undef) rfl) hG113) ⟨rfl,rfl⟩) (Ad (PQ c 73) rfl rfl (geT (vr (cond (bb95&& !p.push) (.bool (bb111)) undef) rfl)) (fun hG114=>Yk.fieldAt G8 (vr (PQ c 0) rfl) ⟨rfl,rfl⟩) (Ad (AB x.1.new.1) rfl rfl (geT (vr (cond (bb95&& !p.push) (.bool (bb111)) undef) rfl)) (fun hG115=>Yk.loadPR (PR.blk g (C1 x) (Dd x) (mayT (vr (cond ((bb95&& !p.push)&&bb111) (PQ c 73) undef) rfl) hG115)) NV rfl (Aw x.1.new.2) ⟨rfl,rfl⟩) (Bd (.bool (zeroB x.1.new)) rfl rfl (geT (vr (cond (bb95&& !p.push) (.bool (bb111)) undef) rfl)) (fun hG116=>Yk.callA1 Hj (mayT (vr (cond ((bb95&& !p.push)&&bb111) (AB x.1.new.1) undef) rfl) hG116) ((DH _ x.1.new).mono (by rintro e u ⟨rfl,hx⟩;exact⟨_,rfl,rfl,hx⟩))) fun ap o=> ?_))))
 have hE:=hE.trans o
 have g:=eb o g
 have h:=eb o h
 refine Bt (bb111&&(zeroB x.1.new)) rfl rfl (Br (vr (cond (bb95) (.bool (p.push)) undef) rfl)) (fun hG120=>Yk.pickAnd (mayT (vr (cond (bb95&& !p.push) (.bool (bb111)) undef) rfl) hG120) (fun hA=>(mayT (vr (cond ((bb95&& !p.push)&&bb111) (.bool (zeroB x.1.new)) undef) rfl) (Cc hG120 hA))) (vr (.bool (false)) rfl) ⟨rfl,rfl⟩) fun bb121 hbb122=>(Ad (.bool (bb121)) rfl rfl (Br (vr (cond (bb95) (.bool (p.push)) undef) rfl)) (fun hG123=>Yk.move (mayT (vr (cond (bb95&& !p.push) (.bool (bb121)) undef) rfl) hG123) ⟨rfl,rfl⟩) (Ad (PQ c 105) rfl rfl (geT (vr (cond (bb95&& !p.push) (.bool (bb121)) undef) rfl)) (fun hG124=>Yk.fieldAt KG (vr (PQ c 0) rfl) ⟨rfl,rfl⟩) (Ad (.bool (x.1.force)) rfl rfl (geT (vr (cond (bb95&& !p.push) (.bool (bb121)) undef) rfl)) (fun hG125=>Yk.cell1 De rfl (mayT (vr (cond ((bb95&& !p.push)&&bb121) (PQ c 105) undef) rfl) hG125) (Ab g (show(msgC x)[105]? =some (.bool (x.1.force):Value)from ET x)) ⟨rfl,rfl⟩) (Ad (.bool (!(x.1.force))) rfl rfl (geT (vr (cond (bb95&& !p.push) (.bool (bb121)) undef) rfl)) (fun hG126=>Yk.notB (mayT (vr (cond ((bb95&& !p.push)&&bb121) (.bool (x.1.force)) undef) rfl) hG126) ⟨rfl,rfl⟩) (Bt (bb121&&(!(x.1.force))) rfl rfl (Br (vr (cond (bb95) (.bool (p.push)) undef) rfl)) (fun hG127=>Yk.pickAnd (mayT (vr (cond (bb95&& !p.push) (.bool (bb121)) undef) rfl) hG127) (fun hA=>(mayT (vr (cond ((bb95&& !p.push)&&bb121) (.bool (!(x.1.force))) undef) rfl) (Cc hG127 hA))) (vr (.bool (false)) rfl) ⟨rfl,rfl⟩) fun bb128 hbb129=>(Bt (p.push||bb128) rfl rfl (gT (vr (.bool (bb95)) rfl)) (fun hG130=>Yk.pickOr (mayT (vr (cond (bb95) (.bool (p.push)) undef) rfl) hG130) (vr (.bool (true)) rfl) (fun hA=>(mayT (vr (cond (bb95&& !p.push) (.bool (bb128)) undef) rfl) (Cc hG130 (not_i hA)))) ⟨rfl,rfl⟩) fun bb131 hbb132=>(oS rfl (Yk.pickAndN (vr (.bool (bb95)) rfl) (fun hA=>(mayT (vr (cond (bb95) (.bool (bb131)) undef) rfl) hA)) (vr (.bool (false)) rfl) fun bb133 hbb134=>(oM rfl (Ad (PQ f 7) rfl rfl (gT (vr (.bool (bb133)) rfl)) (fun hG135=>Yk.fieldAt LJ (vr (PQ f 0) rfl) ⟨rfl,rfl⟩) (Ad (.bool (p.code)) rfl rfl (gT (vr (.bool (bb133)) rfl)) (fun hG136=>Yk.cell1 De rfl (mayT (vr (cond (bb133) (PQ f 7) undef) rfl) hG136) (Ab h (show(partsC p)[7]? =some (.bool (p.code):Value)from BR p)) ⟨rfl,rfl⟩) (Ad (.bool (p.code)) rfl rfl (gT (vr (.bool (bb133)) rfl)) (fun hG137=>Yk.move (mayT (vr (cond (bb133) (.bool (p.code)) undef) rfl) hG137) ⟨rfl,rfl⟩) (Ad (PQ c 106) rfl rfl (Br (vr (cond (bb133) (.bool (p.code)) undef) rfl)) (fun hG138=>Yk.fieldAt G9 (vr (PQ c 0) rfl) ⟨rfl,rfl⟩) (Ad (.int .i64 (x.1.code:Int)) rfl rfl (Br (vr (cond (bb133) (.bool (p.code)) undef) rfl)) (fun hG139=>Yk.cell1 J1 rfl (mayT (vr (cond (bb133&& !p.code) (PQ c 106) undef) rfl) hG139) (Ab g (show(msgC x)[106]? =some (.int .i64 (x.1.code:Int):Value)from DQ x)) ⟨rfl,rfl⟩) ?_))))))))))))))
 refine Ad (.bool (decide ((x.1.code:Int)=((0:Nat):Int)))) rfl rfl (Br (vr (cond (bb133) (.bool (p.code)) undef) rfl)) (fun hG140=>Yk.eqI (mayT (vr (cond (bb133&& !p.code) (.int .i64 (x.1.code:Int)) undef) rfl) hG140) (vr (NI 0) rfl) (FN _ .i64 (x.1.code:Int) ((0:Nat):Int)) ⟨rfl,rfl⟩) (Bt (p.code||(decide ((x.1.code:Int)=((0:Nat):Int)))) rfl rfl (gT (vr (.bool (bb133)) rfl)) (fun hG141=>Yk.pickOr (mayT (vr (cond (bb133) (.bool (p.code)) undef) rfl) hG141) (vr (.bool (true)) rfl) (fun hA=>(mayT (vr (cond (bb133&& !p.code) (.bool (decide ((x.1.code:Int)=((0:Nat):Int)))) undef) rfl) (Cc hG141 (not_i hA)))) ⟨rfl,rfl⟩) fun bb142 hbb143=>(oS rfl (Yk.pickAndN (vr (.bool (bb133)) rfl) (fun hA=>(mayT (vr (cond (bb133) (.bool (bb142)) undef) rfl) hA)) (vr (.bool (false)) rfl) fun bb144 hbb145=>(oA rfl (Bp [(0, .agg (msgC x).toArray),(1, .agg (partsC p).toArray),(2,PQ c 0),(3,PQ f 0),(4, .bool (bb144))] ⟨i,j,rfl,rfl,rfl,trivial⟩ fun aq ⟨i,j,T2,T3,T4,_⟩=>(tN (ac _ _ (Ao (An (fn:=Tryd.f56) _ rfl [.bool (bb144)] (.bool (bb144)) rfl ⟨T4,trivial⟩ ?_)))))))))
 subst hbb28 hbb43 hbb46 hbb48 hbb57 hbb59 hbb68 hbb70 hbb82 hbb84 hbb94 hbb96 hbb112 hbb122 hbb129 hbb132 hbb134 hbb143 hbb145
 exact⟨rfl,hE⟩

theorem CP(w:World)(x:Ah)(hm:MsgAt w x)(hL:B9 x.1):
  Calls Tryd.prog 19 #[.agg (msgC x).toArray] w fun e w' =>e = .returned (.bool (rightB x.1))∧Ext w w' :=by
 have hmr:=hm.refs
 have hmw:=hm.wants
 have hmh:=hm.haves
 have hmb:=hm.bytes
 refine calls_of_wpF (args:= [.agg (msgC x).toArray]) Tryd.func19 rfl 88 rfl (Nat.le_of_ble_eq_true rfl) ?_
 intro a3 hb
 have n:a3 0=(.agg (msgC x).toArray:Value):=hb.get 0
 clear hb
 have hE:=Ext.refl w
 refine sk fun K1 au=>(wt (oS rfl (Yk.box (cs:=(msgC x:List Value).toArray) n fun i j bs av a4 bt=> ?_)))
 have hE:=hE.trans a4
 have f:=av;clear av
 have bu:i<j.heap.size:=by omega
 refine oA rfl (oZ ?_)
 rcases hK:AV x.1.kind with _ | p
 ·refine tN (au _ _ (sk fun bv a5=> ?_))
  have bw:=hE.size
  have bx:i<j.heap.size:=(bl f)
  refine D0 0 7 8 9 92 (partsC (⟨false,false,false,false,false,false,false,false⟩:Ai)).toArray (partsC BA).toArray [fun x w' =>∃b,x = .map (some b)∧MapF B8 AH (fun _:UInt8=>True) w' b AV,Is (PQ i 0),Is (B8 (x.1.kind)),Is (.tuple #[.agg (partsC BA).toArray, .bool (false)]),Is (.tuple #[.agg (partsC BA).toArray, .bool (false)]),Is (.agg (partsC BA).toArray),Is (.bool (false)),RowK j 92 8,(fun _ _=>True)] (by kernel_rfl) [6,7,8,9,5,10,11,3,4] (by kernel_rfl) (by kernel_rfl) (by kernel_rfl) (by kernel_rfl) rfl rfl (by kernel_rfl) rfl rfl rfl rfl rfl rfl rfl ⟨(fun _ _ _ ⟨b,h1,h2⟩ k=>⟨b,h1,MapF.stabK h2 k⟩),Stab.is _,Stab.is _,Stab.is _,Stab.is _,Stab.is _,Stab.is _,RowK.stab _ _ _,Stab.any,trivial⟩ rfl ?a6 ?hQ1001
  case a6=>
   refine⟨?_,?_,?_,?_,?_,?_,?_,?_,?_,?_,trivial⟩
   ·refine AT (Aa rfl fun σ w1 hC h=> ?_)
    have hC:Ext j w1:=hC
    refine Yk.callA0 J2 ((Cs _).mono ?_)
    rintro e o ⟨b,rfl,hmk,hx,hom⟩
    exact⟨_,rfl,⟨hx,hom⟩,⟨b,rfl,hmk⟩⟩
   ·refine AT (Aa rfl fun σ w1 hC h=> ?_)
    have hC:Ext j w1:=hC
    have v:σ 1=PQ i 0:=(Af (h 1 (by decide))).trans rfl
    exact Yk.fieldAt H8 v ⟨rfl,rfl⟩
   ·refine AT (Aa rfl fun σ w1 hC h=> ?_)
    have hC:Ext j w1:=hC
    have y:=Af (h 7 (by decide))
    exact Yk.cell1 u5 rfl y (Ab (eb hC f) (show(msgC x)[0]? =some (B8 (x.1.kind):Value)from Bv x)) ⟨rfl,rfl⟩
   ·refine AT (Aa rfl fun σ w1 hC h=> ?_)
    have hC:Ext j w1:=hC
    have e6:(fun x w' =>∃b,x = .map (some b)∧MapF B8 AH (fun _:UInt8=>True) w' b AV) (σ 6) w1:=h 6 (by decide)
    have e8:=Af (h 8 (by decide))
    obtain⟨b6,k6,m6⟩:=(show ∃b,σ 6 = .map (some b)∧MapF B8 AH (fun _:UInt8=>True) w1 b AV from e6)
    exact Yk.lookOkN (ek:=B8) (ev:=AH) (D:=fun _:UInt8=>True) CE CF (fun _ _=>Dv) C8 (z:=AH BA) Cr k6 e8 m6 trivial hK ⟨rfl,rfl⟩
   ·refine AT (Aa rfl fun σ w1 hC h=> ?_)
    have hC:Ext j w1:=hC
    have e9:=Af (h 9 (by decide))
    exact Yk.move e9 ⟨rfl,rfl⟩
   ·refine AT (Aa rfl fun σ w1 hC h=> ?_)
    have hC:Ext j w1:=hC
    have r:=Af (h 5 (by decide))
    exact Yk.extract (vs:= [.agg (partsC BA).toArray, .bool (false)]) r (show _=some (.agg (partsC BA).toArray:Value)from rfl) ⟨rfl,rfl⟩
   ·refine AT (Aa rfl fun σ w1 hC h=> ?_)
    have hC:Ext j w1:=hC
    have r:=Af (h 5 (by decide))
    exact Yk.extract (vs:= [.agg (partsC BA).toArray, .bool (false)]) r (show _=some (.bool (false):Value)from rfl) ⟨rfl,rfl⟩
   ·refine AT (Aa rfl fun σ w1 hC h=> ?_)
    have hC:Eo j w1:=hC
    exact Yk.allocX J3 ⟨⟨hC,rfl⟩,w1.heap.size,_,rfl,hC.1.size,heap_alloc_new _ _,rfl⟩
   ·refine AT (Aa rfl fun σ w1 hC h=> ?_)
    have hC:D3 j w1:=hC
    have e3:(RowK j 92 8) (σ 3) w1:=h 3 (by decide)
    have ae:=Af (h 10 (by decide))
    obtain⟨g,cs,h1,h2,h3,h4⟩:=e3
    exact Yk.storeAll h1 ae (show _=some (Obj.cells cs.toList.toArray 92 (0,0)) by simpa using h3) (by rw[show cs.toList.toArray=cs by simp,h4];rfl) (show(Tryd.prog.info? 92).map (·.size)=some 8 from Gt) (Cp) fun o a b c=>⟨⟨hC,g,cs,h2,h3,(by rw[h4];rfl),a,b,c⟩,trivial⟩
   ·exact trivial
  intro aw a7 ax hun18 he hf
  obtain⟨-,-,-,-,-,-,k11,k3,-⟩:=hf
  obtain⟨n,m,s,-⟩:=he.hold [(0,_),(1,PQ i 0),(2, .bool (false))] ⟨n,rfl,rfl,trivial⟩ rfl
  clear he
  have hE:=hE.trans ax
  have f:=eb ax f
  obtain⟨ay,cs_,q,a8,az,bz⟩:=(show(RowK j 92 8) (aw 3) a7 from k3)
  obtain rfl:=hun18 ay cs_ _ _ a8 az
  clear k3
  have b0:=bl az
  have t:aw 11 = .bool (false):=k11
  clear k11
  refine oA rfl (oZ (tN (a5 _ _ (sk fun b1 b2=>(sk fun b3 a9=>(wt (oM rfl (oS rfl (Yk.notB t (oM rfl (oN (d:=14) rfl rfl rfl (vr (.bool (true)) rfl) rfl (oN (d:=14) rfl rfl rfl (vr (.bool (true)) rfl) rfl (oN (d:=14) rfl rfl rfl (vr (.bool (true)) rfl) rfl (oN (d:=14) rfl rfl rfl (vr (.bool (true)) rfl) rfl (oS rfl (Yk.pickT (vr (.bool (true)) rfl) (vr (.bool (true)) rfl) (oM rfl (oN (d:=20) rfl rfl rfl (vr (.bool (true)) rfl) rfl ?_))))))))))))))))))
  refine oN (d:=20) rfl rfl rfl (vr (.bool (true)) rfl) rfl (oN (d:=20) rfl rfl rfl (vr (.bool (true)) rfl) rfl (oN (d:=20) rfl rfl rfl (vr (.bool (true)) rfl) rfl (oS rfl (Yk.pickT (vr (.bool (true)) rfl) (vr (.bool (true)) rfl) (oM rfl (oN (d:=26) rfl rfl rfl (vr (.bool (true)) rfl) rfl (oN (d:=26) rfl rfl rfl (vr (.bool (true)) rfl) rfl (oN (d:=26) rfl rfl rfl (vr (.bool (true)) rfl) rfl (oN (d:=26) rfl rfl rfl (vr (.bool (true)) rfl) rfl (oS rfl (Yk.pickT (vr (.bool (true)) rfl) (vr (.bool (true)) rfl) (oM rfl (oN (d:=32) rfl rfl rfl (vr (.bool (true)) rfl) rfl (oN (d:=32) rfl rfl rfl (vr (.bool (true)) rfl) rfl (oN (d:=32) rfl rfl rfl (vr (.bool (true)) rfl) rfl (oN (d:=32) rfl rfl rfl (vr (.bool (true)) rfl) rfl (oS rfl (Yk.pickT (vr (.bool (true)) rfl) (vr (.bool (true)) rfl) ?_))))))))))))))))))
  refine oM rfl (oN (d:=38) rfl rfl rfl (vr (.bool (true)) rfl) rfl (oN (d:=38) rfl rfl rfl (vr (.bool (true)) rfl) rfl (oN (d:=38) rfl rfl rfl (vr (.bool (true)) rfl) rfl (oN (d:=38) rfl rfl rfl (vr (.bool (true)) rfl) rfl (oS rfl (Yk.pickT (vr (.bool (true)) rfl) (vr (.bool (true)) rfl) (Bp [(0, .agg (msgC x).toArray),(1,PQ i 0),(2, .bool (false)),(3,PQ ay 0),(4, .bool (false)),(43, .bool (true))] ⟨n,m,s,q,t,rfl,trivial⟩ fun b4 ⟨n,m,s,q,T4,ag,_⟩=>(tN (a9 _ _ (At ag (sk fun b5 ba=>(wt (oA rfl (oZ (tN (ba _ _ (Ao (Ap (An (fn:=Tryd.f19) _ rfl [.bool (false)] (.bool (false)) rfl ⟨rfl,trivial⟩ ?_)))))))))))))))))))
  exact⟨by rw[G7 hK],hE⟩
 refine tN (au _ _ (sk fun b7 bb=> ?_))
 have b8:=hE.size
 have b9:i<j.heap.size:=(bl f)
 refine D0 0 7 8 9 92 (partsC (⟨false,false,false,false,false,false,false,false⟩:Ai)).toArray (partsC p).toArray [fun x w' =>∃b,x = .map (some b)∧MapF B8 AH (fun _:UInt8=>True) w' b AV,Is (PQ i 0),Is (B8 (x.1.kind)),Is (.tuple #[.agg (partsC p).toArray, .bool (true)]),Is (.tuple #[.agg (partsC p).toArray, .bool (true)]),Is (.agg (partsC p).toArray),Is (.bool (true)),RowK j 92 8,(fun _ _=>True)] (by kernel_rfl) [6,7,8,9,5,10,11,3,4] (by kernel_rfl) (by kernel_rfl) (by kernel_rfl) (by kernel_rfl) rfl rfl (by kernel_rfl) rfl rfl rfl rfl rfl rfl rfl ⟨(fun _ _ _ ⟨b,h1,h2⟩ k=>⟨b,h1,MapF.stabK h2 k⟩),Stab.is _,Stab.is _,Stab.is _,Stab.is _,Stab.is _,Stab.is _,RowK.stab _ _ _,Stab.any,trivial⟩ rfl ?bc ?hQ2001
 case bc=>
  refine⟨?_,?_,?_,?_,?_,?_,?_,?_,?_,?_,trivial⟩
  ·refine AT (Aa rfl fun σ w1 hC h=> ?_)
   have hC:Ext j w1:=hC
   refine Yk.callA0 J2 ((Cs _).mono ?_)
   rintro e o ⟨b,rfl,hmk,hx,hom⟩
   exact⟨_,rfl,⟨hx,hom⟩,⟨b,rfl,hmk⟩⟩
  ·refine AT (Aa rfl fun σ w1 hC h=> ?_)
   have hC:Ext j w1:=hC
   have v:σ 1=PQ i 0:=(Af (h 1 (by decide))).trans rfl
   exact Yk.fieldAt H8 v ⟨rfl,rfl⟩
  ·refine AT (Aa rfl fun σ w1 hC h=> ?_)
   have hC:Ext j w1:=hC
   have y:=Af (h 7 (by decide))
   exact Yk.cell1 u5 rfl y (Ab (eb hC f) (show(msgC x)[0]? =some (B8 (x.1.kind):Value)from Bv x)) ⟨rfl,rfl⟩
  ·refine AT (Aa rfl fun σ w1 hC h=> ?_)
   have hC:Ext j w1:=hC
   have e6:(fun x w' =>∃b,x = .map (some b)∧MapF B8 AH (fun _:UInt8=>True) w' b AV) (σ 6) w1:=h 6 (by decide)
   have e8:=Af (h 8 (by decide))
   obtain⟨b6,k6,m6⟩:=(show ∃b,σ 6 = .map (some b)∧MapF B8 AH (fun _:UInt8=>True) w1 b AV from e6)
   exact Yk.lookOkS (ek:=B8) (ev:=AH) (D:=fun _:UInt8=>True) CE CF (fun _ _=>Dv) C8 (z:=AH BA) Cr k6 e8 m6 trivial hK ⟨rfl,rfl⟩
  ·refine AT (Aa rfl fun σ w1 hC h=> ?_)
   have hC:Ext j w1:=hC
   have e9:=Af (h 9 (by decide))
   exact Yk.move e9 ⟨rfl,rfl⟩
  ·refine AT (Aa rfl fun σ w1 hC h=> ?_)
   have hC:Ext j w1:=hC
   have r:=Af (h 5 (by decide))
   exact Yk.extract (vs:= [.agg (partsC p).toArray, .bool (true)]) r (show _=some (.agg (partsC p).toArray:Value)from rfl) ⟨rfl,rfl⟩
  ·refine AT (Aa rfl fun σ w1 hC h=> ?_)
   have hC:Ext j w1:=hC
   have r:=Af (h 5 (by decide))
   exact Yk.extract (vs:= [.agg (partsC p).toArray, .bool (true)]) r (show _=some (.bool (true):Value)from rfl) ⟨rfl,rfl⟩
  ·refine AT (Aa rfl fun σ w1 hC h=> ?_)
   have hC:Eo j w1:=hC
   exact Yk.allocX J3 ⟨⟨hC,rfl⟩,w1.heap.size,_,rfl,hC.1.size,heap_alloc_new _ _,rfl⟩
  ·refine AT (Aa rfl fun σ w1 hC h=> ?_)
   have hC:D3 j w1:=hC
   have e3:(RowK j 92 8) (σ 3) w1:=h 3 (by decide)
   have ae:=Af (h 10 (by decide))
   obtain⟨g,cs,h1,h2,h3,h4⟩:=e3
   exact Yk.storeAll h1 ae (show _=some (Obj.cells cs.toList.toArray 92 (0,0)) by simpa using h3) (by rw[show cs.toList.toArray=cs by simp,h4];rfl) (show(Tryd.prog.info? 92).map (·.size)=some 8 from Gt) (Cp) fun o a b c=>⟨⟨hC,g,cs,h2,h3,(by rw[h4];rfl),a,b,c⟩,trivial⟩
  ·exact trivial
 intro a0 bd a1 hun37 he hf
 obtain⟨-,-,-,-,-,-,k11,k3,-⟩:=hf
 obtain⟨n,m,s,-⟩:=he.hold [(0,_),(1,PQ i 0),(2, .bool (false))] ⟨n,rfl,rfl,trivial⟩ rfl
 clear he
 have hE:=hE.trans a1
 have f:=eb a1 f
 obtain⟨u,cs_,q,be,l,ca⟩:=(show(RowK j 92 8) (a0 3) bd from k3)
 obtain rfl:=hun37 u cs_ _ _ be l
 clear k3
 have cb:=bl l
 have t:a0 11 = .bool (true):=k11
 clear k11
 refine oA rfl (oZ (tN (bb _ _ (sk fun cc bf=>(sk fun cd bg=>(wt (oM rfl (oS rfl (Yk.notB t (oM rfl (oY (d:=14) rfl rfl (vr (.bool (false)) rfl) (Yk.fieldAt LK m (oY (d:=14) rfl rfl (vr (.bool (false)) rfl) (Yk.cell1 FI rfl (vr (PQ i 1) rfl) (Ab f (show(msgC x)[1]? =some (.int .i64 (x.1.session:Int):Value)from CU x)) (oY (d:=14) rfl rfl (vr (.bool (false)) rfl) (Yk.callA2 FU (vr (.int .i64 (x.1.session:Int)) rfl) (vr (NI 2147483647) rfl) ((Fm _ x.1.session ((2147483647:Nat):Int)).mono ?_)))))))))))))))))
 rintro e ce ⟨rfl,ah⟩
 refine⟨_,rfl,?_⟩
 have hE:=hE.trans ah
 have f:=eb ah f
 have l:=eb ah l
 refine oY (d:=14) rfl rfl (vr (.bool (false)) rfl) (Yk.notB (vr (.bool (boundB x.1.session ((2147483647:Nat):Int))) rfl) (oS rfl (Yk.pickF (vr (.bool (false)) rfl) (vr (.bool (!(boundB x.1.session ((2147483647:Nat):Int)))) rfl) (oM rfl (Ad (.agg (msgC x).toArray) rfl rfl (gF (vr (.bool (!(boundB x.1.session ((2147483647:Nat):Int)))) rfl)) (fun hG48=>Yk.loadAll m f (Nr).choose_spec rfl (Au (msg_len x) Mr) ⟨rfl,rfl⟩) (Ad (.agg (partsC p).toArray) rfl rfl (gF (vr (.bool (!(boundB x.1.session ((2147483647:Nat):Int)))) rfl)) (fun hG49=>Yk.loadAll q l (Ns).choose_spec rfl (Au (BI p) Gt) ⟨rfl,rfl⟩) (Bd (.bool (CG x.1 p)) rfl rfl (gF (vr (.bool (!(boundB x.1.session ((2147483647:Nat):Int)))) rfl)) (fun hG50=>Yk.callA2 Nt (mayT (vr (cond (!(!(boundB x.1.session ((2147483647:Nat):Int)))) (.agg (msgC x).toArray) undef) rfl) hG50) (mayT (vr (cond (!(!(boundB x.1.session ((2147483647:Nat):Int)))) (.agg (partsC p).toArray) undef) rfl) hG50) ((LL _ x (MsgAt.mk (hmr.keep hE) (hmw.keep hE) (hmh.keep hE) (hmb.keep hE)) p).mono (by rintro e o ⟨rfl,hx⟩;exact⟨_,rfl,rfl,hx⟩))) fun cf ai=> ?_)))))))
 have hE:=hE.trans ai
 have f:=eb ai f
 have l:=eb ai l
 refine Ad (.bool (!(CG x.1 p))) rfl rfl (gF (vr (.bool (!(boundB x.1.session ((2147483647:Nat):Int)))) rfl)) (fun hG54=>Yk.notB (mayT (vr (cond (!(!(boundB x.1.session ((2147483647:Nat):Int)))) (.bool (CG x.1 p)) undef) rfl) hG54) ⟨rfl,rfl⟩) (oS rfl (Yk.pickOrN (vr (.bool (!(boundB x.1.session ((2147483647:Nat):Int)))) rfl) (vr (.bool (true)) rfl) (fun hA=>(mayT (vr (cond (!(!(boundB x.1.session ((2147483647:Nat):Int)))) (.bool (!(CG x.1 p))) undef) rfl) (not_i hA))) fun bb55 hbb56=>(oM rfl (Ad (PQ i 2) rfl rfl (gF (vr (.bool (bb55)) rfl)) (fun hG57=>Yk.fieldAt H0 m ⟨rfl,rfl⟩) (Ad (x.2.refs) rfl rfl (gF (vr (.bool (bb55)) rfl)) (fun hG58=>Yk.cell1 CJ rfl (mayT (vr (cond (!bb55) (PQ i 2) undef) rfl) hG58) (Ab f (show(msgC x)[2]? =some (x.2.refs:Value)from BF x)) ⟨rfl,rfl⟩) (Bd (.bool (BG x.1.refs)) rfl rfl (gF (vr (.bool (bb55)) rfl)) (fun hG59=>Yk.callA1 Nu (mayT (vr (cond (!bb55) (x.2.refs) undef) rfl) hG59) ((Mo _ _ x.1.refs (hmr.keep hE) (by have:=hL.refs;omega) hL.names).mono (by rintro e o ⟨rfl,hx⟩;exact⟨_,rfl,rfl,hx⟩))) fun cg aj=> ?_))))))
 have hE:=hE.trans aj
 have f:=eb aj f
 have l:=eb aj l
 refine Ad (.bool (!(BG x.1.refs))) rfl rfl (gF (vr (.bool (bb55)) rfl)) (fun hG63=>Yk.notB (mayT (vr (cond (!bb55) (.bool (BG x.1.refs)) undef) rfl) hG63) ⟨rfl,rfl⟩) (oS rfl (Yk.pickOrN (vr (.bool (bb55)) rfl) (vr (.bool (true)) rfl) (fun hA=>(mayT (vr (cond (!bb55) (.bool (!(BG x.1.refs))) undef) rfl) (not_i hA))) fun bb64 hbb65=>(oM rfl (Ad (PQ i 3) rfl rfl (gF (vr (.bool (bb64)) rfl)) (fun hG66=>Yk.fieldAt H1 m ⟨rfl,rfl⟩) (Ad (x.2.wants) rfl rfl (gF (vr (.bool (bb64)) rfl)) (fun hG67=>Yk.cell1 Bw rfl (mayT (vr (cond (!bb64) (PQ i 3) undef) rfl) hG67) (Ab f (show(msgC x)[3]? =some (x.2.wants:Value)from DE x)) ⟨rfl,rfl⟩) (Bd (.bool (BT x.1.wants)) rfl rfl (gF (vr (.bool (bb64)) rfl)) (fun hG68=>Yk.callA1 J4 (mayT (vr (cond (!bb64) (x.2.wants) undef) rfl) hG68) ((wset_any _ _ x.1.wants (hmw.keep hE) (by have:=hL.wants;omega)).mono (by rintro e o ⟨rfl,hx⟩;exact⟨_,rfl,rfl,hx⟩))) fun ch ak=> ?_))))))
 have hE:=hE.trans ak
 have f:=eb ak f
 have l:=eb ak l
 refine Ad (.bool (!(BT x.1.wants))) rfl rfl (gF (vr (.bool (bb64)) rfl)) (fun hG72=>Yk.notB (mayT (vr (cond (!bb64) (.bool (BT x.1.wants)) undef) rfl) hG72) ⟨rfl,rfl⟩) (oS rfl (Yk.pickOrN (vr (.bool (bb64)) rfl) (vr (.bool (true)) rfl) (fun hA=>(mayT (vr (cond (!bb64) (.bool (!(BT x.1.wants))) undef) rfl) (not_i hA))) fun bb73 hbb74=>(oM rfl (Ad (PQ i 4) rfl rfl (gF (vr (.bool (bb73)) rfl)) (fun hG75=>Yk.fieldAt H2 m ⟨rfl,rfl⟩) (Ad (x.2.haves) rfl rfl (gF (vr (.bool (bb73)) rfl)) (fun hG76=>Yk.cell1 Bw rfl (mayT (vr (cond (!bb73) (PQ i 4) undef) rfl) hG76) (Ab f (show(msgC x)[4]? =some (x.2.haves:Value)from DF x)) ⟨rfl,rfl⟩) (Bd (.bool (BT x.1.haves)) rfl rfl (gF (vr (.bool (bb73)) rfl)) (fun hG77=>Yk.callA1 J4 (mayT (vr (cond (!bb73) (x.2.haves) undef) rfl) hG77) ((wset_any _ _ x.1.haves (hmh.keep hE) (by have:=hL.haves;omega)).mono (by rintro e o ⟨rfl,hx⟩;exact⟨_,rfl,rfl,hx⟩))) fun ci al=> ?_))))))
 have hE:=hE.trans al
 have f:=eb al f
 have l:=eb al l
 refine Ad (.bool (!(BT x.1.haves))) rfl rfl (gF (vr (.bool (bb73)) rfl)) (fun hG81=>Yk.notB (mayT (vr (cond (!bb73) (.bool (BT x.1.haves)) undef) rfl) hG81) ⟨rfl,rfl⟩) (oS rfl (Yk.pickOrN (vr (.bool (bb73)) rfl) (vr (.bool (true)) rfl) (fun hA=>(mayT (vr (cond (!bb73) (.bool (!(BT x.1.haves))) undef) rfl) (not_i hA))) fun bb82 hbb83=>(Bp [(0, .agg (msgC x).toArray),(1,PQ i 0),(2, .bool (false)),(3,PQ u 0),(4, .bool (true)),(43, .bool (bb82))] ⟨n,m,s,q,t,rfl,trivial⟩ fun cj ⟨n,m,s,q,T4,ag,_⟩=>(tN (bg _ _ ?_)))))
 refine Bz (bb82) ag (fun am=> ?_) (fun am=> ?_)
 ·subst hbb56 hbb65 hbb74 hbb83
  have h1c:((((!boundB x.1.session 2147483647|| !CG x.1 p)|| !BG x.1.refs)|| !BT x.1.wants)|| !BT x.1.haves)=true:=am
  refine sk fun ck bh=>(wt (oA rfl (oZ (tN (bh _ _ (Ao (Ap (An (fn:=Tryd.f19) _ rfl [.bool (false)] (.bool (false)) rfl ⟨rfl,trivial⟩ ?_))))))))
  refine⟨?_,hE⟩
  rw[C7 hK];unfold C4;rw[h1c];rfl
 subst hbb56 hbb65 hbb74 hbb83
 have h1c:((((!boundB x.1.session 2147483647|| !CG x.1 p)|| !BG x.1.refs)|| !BT x.1.wants)|| !BT x.1.haves)=false:=am
 refine Ak (tN (bf _ _ (sk fun cl bi=>(sk fun cm bj=>(wt (oS rfl (Yk.fieldAt H3 m (oS rfl (Yk.cell1 FI rfl (vr (PQ i 5) rfl) (Ab f (show(msgC x)[5]? =some (.int .i64 (x.1.size:Int):Value)from Dq x)) (oS rfl (Yk.callA2 FU (vr (.int .i64 (x.1.size:Int)) rfl) (vr (NI 1048576) rfl) ((Fm _ x.1.size ((1048576:Nat):Int)).mono ?_))))))))))))
 rintro e cn ⟨rfl,an⟩
 refine⟨_,rfl,?_⟩
 have hE:=hE.trans an
 have f:=eb an f
 have l:=eb an l
 refine oS rfl (Yk.notB (vr (.bool (boundB x.1.size ((1048576:Nat):Int))) rfl) (oM rfl (Ad (PQ i 6) rfl rfl (gF (vr (.bool (!(boundB x.1.size ((1048576:Nat):Int)))) rfl)) (fun hG90=>Yk.fieldAt H4 m ⟨rfl,rfl⟩) (Ad (.int .i64 (x.1.at_:Int)) rfl rfl (gF (vr (.bool (!(boundB x.1.size ((1048576:Nat):Int)))) rfl)) (fun hG91=>Yk.cell1 FI rfl (mayT (vr (cond (!(!(boundB x.1.size ((1048576:Nat):Int)))) (PQ i 6) undef) rfl) hG91) (Ab f (show(msgC x)[6]? =some (.int .i64 (x.1.at_:Int):Value)from Dr x)) ⟨rfl,rfl⟩) (Bd (.bool (boundB x.1.at_ ((1048576:Nat):Int))) rfl rfl (gF (vr (.bool (!(boundB x.1.size ((1048576:Nat):Int)))) rfl)) (fun hG92=>Yk.callA2 FU (mayT (vr (cond (!(!(boundB x.1.size ((1048576:Nat):Int)))) (.int .i64 (x.1.at_:Int)) undef) rfl) hG92) (vr (NI 1048576) rfl) ((Fm _ x.1.at_ ((1048576:Nat):Int)).mono (by rintro e o ⟨rfl,hx⟩;exact⟨_,rfl,rfl,hx⟩))) fun co ao=> ?_)))))
 have hE:=hE.trans ao
 have f:=eb ao f
 have l:=eb ao l
 refine Ad (.bool (!(boundB x.1.at_ ((1048576:Nat):Int)))) rfl rfl (gF (vr (.bool (!(boundB x.1.size ((1048576:Nat):Int)))) rfl)) (fun hG96=>Yk.notB (mayT (vr (cond (!(!(boundB x.1.size ((1048576:Nat):Int)))) (.bool (boundB x.1.at_ ((1048576:Nat):Int))) undef) rfl) hG96) ⟨rfl,rfl⟩) (oS rfl (Yk.pickOrN (vr (.bool (!(boundB x.1.size ((1048576:Nat):Int)))) rfl) (vr (.bool (true)) rfl) (fun hA=>(mayT (vr (cond (!(!(boundB x.1.size ((1048576:Nat):Int)))) (.bool (!(boundB x.1.at_ ((1048576:Nat):Int)))) undef) rfl) (not_i hA))) fun bb97 hbb98=>(oM rfl (Ad (PQ i 106) rfl rfl (gF (vr (.bool (bb97)) rfl)) (fun hG99=>Yk.fieldAt G9 m ⟨rfl,rfl⟩) (Ad (.int .i64 (x.1.code:Int)) rfl rfl (gF (vr (.bool (bb97)) rfl)) (fun hG100=>Yk.cell1 J1 rfl (mayT (vr (cond (!bb97) (PQ i 106) undef) rfl) hG100) (Ab f (show(msgC x)[106]? =some (.int .i64 (x.1.code:Int):Value)from DQ x)) ⟨rfl,rfl⟩) (Bd (.bool (boundB x.1.code ((22:Nat):Int))) rfl rfl (gF (vr (.bool (bb97)) rfl)) (fun hG101=>Yk.callA2 FU (mayT (vr (cond (!bb97) (.int .i64 (x.1.code:Int)) undef) rfl) hG101) (vr (NI 22) rfl) ((Fm _ x.1.code ((22:Nat):Int)).mono (by rintro e o ⟨rfl,hx⟩;exact⟨_,rfl,rfl,hx⟩))) fun cp ap=> ?_))))))
 have hE:=hE.trans ap
 have f:=eb ap f
 have l:=eb ap l
 refine Ad (.bool (!(boundB x.1.code ((22:Nat):Int)))) rfl rfl (gF (vr (.bool (bb97)) rfl)) (fun hG105=>Yk.notB (mayT (vr (cond (!bb97) (.bool (boundB x.1.code ((22:Nat):Int))) undef) rfl) hG105) ⟨rfl,rfl⟩) (oS rfl (Yk.pickOrN (vr (.bool (bb97)) rfl) (vr (.bool (true)) rfl) (fun hA=>(mayT (vr (cond (!bb97) (.bool (!(boundB x.1.code ((22:Nat):Int)))) undef) rfl) (not_i hA))) fun bb106 hbb107=>(oZ (tN (bj _ _ ?_)))))
 refine Bz (bb106) (vr (.bool (bb106)) rfl) (fun aq=> ?_) (fun aq=> ?_)
 ·subst hbb98 hbb107
  have h2c:((!boundB x.1.size 1048576|| !boundB x.1.at_ 1048576)|| !boundB x.1.code 22)=true:=aq
  refine sk fun cq bk=>(wt (oA rfl (oZ (tN (bk _ _ (Ao (Ap (An (fn:=Tryd.f19) _ rfl [.bool (false)] (.bool (false)) rfl ⟨rfl,trivial⟩ ?_))))))))
  refine⟨?_,hE⟩
  rw[C7 hK];unfold C4;rw[h1c,h2c];rfl
 subst hbb98 hbb107
 have h2c:((!boundB x.1.size 1048576|| !boundB x.1.at_ 1048576)|| !boundB x.1.code 22)=false:=aq
 refine Ak (tN (bi _ _ (sk fun cr bm=>(sk fun ct bn=>(wt (oS rfl (Yk.fieldAt H5 q (oS rfl (Yk.cell1 De rfl (vr (PQ u 5) rfl) (Ab l (show(partsC p)[5]? =some (.bool (p.bytes):Value)from BP p)) (oM rfl (Ad (PQ i 39) rfl rfl (gT (vr (.bool (p.bytes)) rfl)) (fun hG111=>Yk.fieldAt FT m ⟨rfl,rfl⟩) (Ad (x.2.bytes) rfl rfl (gT (vr (.bool (p.bytes)) rfl)) (fun hG112=>Yk.cell1 El rfl (mayT (vr (cond (p.bytes) (PQ i 39) undef) rfl) hG112) (Ab f (show(msgC x)[39]? =some (x.2.bytes:Value)from Ds x)) ⟨rfl,rfl⟩) (Ad (NI ((x.1.bytes:List UInt8).length)) rfl rfl (gT (vr (.bool (p.bytes)) rfl)) (fun hG113=>Yk.lenRB El (RB.of (hmb.keep hE) (mayT (vr (cond (p.bytes) (x.2.bytes) undef) rfl) hG113)) ⟨rfl,rfl⟩) (Ad (.bool (decide (((x.1.bytes:List UInt8).length)<(1)))) rfl rfl (gT (vr (.bool (p.bytes)) rfl)) (fun hG114=>Yk.eqI (a:=(((x.1.bytes:List UInt8).length:Nat):Int)) (b:=((1:Nat):Int)) (mayT (vr (cond (p.bytes) (NI ((x.1.bytes:List UInt8).length)) undef) rfl) hG114) (vr (NI 1) rfl) (A0 _ .i64 ((x.1.bytes:List UInt8).length) (1)) ⟨rfl,rfl⟩) (Ad (.bool (decide (((x.1.bytes:List UInt8).length)<(1)))) rfl rfl (gT (vr (.bool (p.bytes)) rfl)) (fun hG115=>Yk.move (mayT (vr (cond (p.bytes) (.bool (decide (((x.1.bytes:List UInt8).length)<(1)))) undef) rfl) hG115) ⟨rfl,rfl⟩) (Ad (PQ i 39) rfl rfl (Br (vr (cond (p.bytes) (.bool (decide (((x.1.bytes:List UInt8).length)<(1)))) undef) rfl)) (fun hG116=>Yk.fieldAt FT m ⟨rfl,rfl⟩) (Ad (x.2.bytes) rfl rfl (Br (vr (cond (p.bytes) (.bool (decide (((x.1.bytes:List UInt8).length)<(1)))) undef) rfl)) (fun hG117=>Yk.cell1 El rfl (mayT (vr (cond (p.bytes&& !(decide (((x.1.bytes:List UInt8).length)<(1)))) (PQ i 39) undef) rfl) hG117) (Ab f (show(msgC x)[39]? =some (x.2.bytes:Value)from Ds x)) ⟨rfl,rfl⟩) (Ad (NI ((x.1.bytes:List UInt8).length)) rfl rfl (Br (vr (cond (p.bytes) (.bool (decide (((x.1.bytes:List UInt8).length)<(1)))) undef) rfl)) (fun hG118=>Yk.lenRB El (RB.of (hmb.keep hE) (mayT (vr (cond (p.bytes&& !(decide (((x.1.bytes:List UInt8).length)<(1)))) (x.2.bytes) undef) rfl) hG118)) ⟨rfl,rfl⟩) ?_))))))))))))))))))
 refine Ad (.bool (decide ((256)<((x.1.bytes:List UInt8).length)))) rfl rfl (Br (vr (cond (p.bytes) (.bool (decide (((x.1.bytes:List UInt8).length)<(1)))) undef) rfl)) (fun hG119=>Yk.eqI (a:=(((x.1.bytes:List UInt8).length:Nat):Int)) (b:=((256:Nat):Int)) (mayT (vr (cond (p.bytes&& !(decide (((x.1.bytes:List UInt8).length)<(1)))) (NI ((x.1.bytes:List UInt8).length)) undef) rfl) hG119) (vr (NI 256) rfl) (k_gtr _ .i64 ((x.1.bytes:List UInt8).length) (256)) ⟨rfl,rfl⟩) (Bt ((decide (((x.1.bytes:List UInt8).length)<(1)))||(decide ((256)<((x.1.bytes:List UInt8).length)))) rfl rfl (gT (vr (.bool (p.bytes)) rfl)) (fun hG120=>Yk.pickOr (mayT (vr (cond (p.bytes) (.bool (decide (((x.1.bytes:List UInt8).length)<(1)))) undef) rfl) hG120) (vr (.bool (true)) rfl) (fun hA=>(mayT (vr (cond (p.bytes&& !(decide (((x.1.bytes:List UInt8).length)<(1)))) (.bool (decide ((256)<((x.1.bytes:List UInt8).length)))) undef) rfl) (Cc hG120 (not_i hA)))) ⟨rfl,rfl⟩) fun bb121 hbb122=>(oS rfl (Yk.pickAndN (vr (.bool (p.bytes)) rfl) (fun hA=>(mayT (vr (cond (p.bytes) (.bool (bb121)) undef) rfl) hA)) (vr (.bool (false)) rfl) fun bb123 hbb124=>(oZ (tN (bn _ _ ?_))))))
 refine Bz (bb123) (vr (.bool (bb123)) rfl) (fun ar=> ?_) (fun ar=> ?_)
 ·subst hbb122 hbb124
  have h3c:(p.bytes&&(decide (x.1.bytes.length<1)||decide (256<x.1.bytes.length)))=true:=ar
  refine sk fun cu bo=>(wt (oA rfl (oZ (tN (bo _ _ (Ao (Ap (An (fn:=Tryd.f19) _ rfl [.bool (false)] (.bool (false)) rfl ⟨rfl,trivial⟩ ?_))))))))
  refine⟨?_,hE⟩
  rw[C7 hK];unfold C4;rw[h1c,h2c,h3c];rfl
 subst hbb122 hbb124
 have h3c:(p.bytes&&(decide (x.1.bytes.length<1)||decide (256<x.1.bytes.length)))=false:=ar
 refine Ak (tN (bm _ _ (sk fun cv bp=>(wt (oS rfl (Yk.fieldAt H6 q (oS rfl (Yk.cell1 De rfl (vr (PQ u 6) rfl) (Ab l (show(partsC p)[6]? =some (.bool (p.push):Value)from BQ p)) (oS rfl (Yk.notB (vr (.bool (p.push)) rfl) (oM rfl (Ad (PQ i 40) rfl rfl (gF (vr (.bool (!(p.push))) rfl)) (fun hG127=>Yk.fieldAt H7 m ⟨rfl,rfl⟩) (Ad (St (x.1.name)) rfl rfl (gF (vr (.bool (!(p.push))) rfl)) (fun hG128=>Yk.cell1 CD rfl (mayT (vr (cond (!(!(p.push))) (PQ i 40) undef) rfl) hG128) (Ab f (show(msgC x)[40]? =some (St (x.1.name):Value)from Ee x)) ⟨rfl,rfl⟩) (Bd (.bool (nameB x.1.name)) rfl rfl (gF (vr (.bool (!(p.push))) rfl)) (fun hG129=>Yk.callA1 No (mayT (vr (cond (!(!(p.push))) (St (x.1.name)) undef) rfl) hG129) ((JR _ x.1.name (by have:=hL.name;omega)).mono (by rintro e o ⟨rfl,hx⟩;exact⟨_,rfl,rfl,hx⟩))) fun cw a2=> ?_))))))))))))))
 have hE:=hE.trans a2
 have f:=eb a2 f
 refine Ad (.bool (nameB x.1.name)) rfl rfl (gF (vr (.bool (!(p.push))) rfl)) (fun hG133=>Yk.move (mayT (vr (cond (!(!(p.push))) (.bool (nameB x.1.name)) undef) rfl) hG133) ⟨rfl,rfl⟩) (Ad (PQ i 73) rfl rfl (geT (vr (cond (!(!(p.push))) (.bool (nameB x.1.name)) undef) rfl)) (fun hG134=>Yk.fieldAt G8 m ⟨rfl,rfl⟩) (Ad (AB x.1.new.1) rfl rfl (geT (vr (cond (!(!(p.push))) (.bool (nameB x.1.name)) undef) rfl)) (fun hG135=>Yk.loadPR (PR.blk f (C1 x) (Dd x) (mayT (vr (cond ((!(!(p.push)))&&(nameB x.1.name)) (PQ i 73) undef) rfl) hG135)) NV rfl (Aw x.1.new.2) ⟨rfl,rfl⟩) (Bd (.bool (zeroB x.1.new)) rfl rfl (geT (vr (cond (!(!(p.push))) (.bool (nameB x.1.name)) undef) rfl)) (fun hG136=>Yk.callA1 Hj (mayT (vr (cond ((!(!(p.push)))&&(nameB x.1.name)) (AB x.1.new.1) undef) rfl) hG136) ((DH _ x.1.new).mono (by rintro e o ⟨rfl,hx⟩;exact⟨_,rfl,rfl,hx⟩))) fun cx bq=> ?_)))
 have hE:=hE.trans bq
 refine Ad (.bool (!(zeroB x.1.new))) rfl rfl (geT (vr (cond (!(!(p.push))) (.bool (nameB x.1.name)) undef) rfl)) (fun hG140=>Yk.notB (mayT (vr (cond ((!(!(p.push)))&&(nameB x.1.name)) (.bool (zeroB x.1.new)) undef) rfl) hG140) ⟨rfl,rfl⟩) (Bt ((nameB x.1.name)&&(!(zeroB x.1.new))) rfl rfl (gF (vr (.bool (!(p.push))) rfl)) (fun hG141=>Yk.pickAnd (mayT (vr (cond (!(!(p.push))) (.bool (nameB x.1.name)) undef) rfl) hG141) (fun hA=>(mayT (vr (cond ((!(!(p.push)))&&(nameB x.1.name)) (.bool (!(zeroB x.1.new))) undef) rfl) (Cc hG141 hA))) (vr (.bool (false)) rfl) ⟨rfl,rfl⟩) fun bb142 hbb143=>(oS rfl (Yk.pickOrN (vr (.bool (!(p.push))) rfl) (vr (.bool (true)) rfl) (fun hA=>(mayT (vr (cond (!(!(p.push))) (.bool (bb142)) undef) rfl) (not_i hA))) fun bb144 hbb145=>(oA rfl (Bp [(0, .agg (msgC x).toArray),(1,PQ i 0),(2, .bool (bb144)),(3,PQ u 0),(4, .bool (true))] ⟨n,m,rfl,q,T4,trivial⟩ fun cy ⟨n,m,s,q,T4,_⟩=>(tN (bp _ _ (Ao (An (fn:=Tryd.f19) _ rfl [.bool (bb144)] (.bool (bb144)) rfl ⟨s,trivial⟩ ?_)))))))))
 subst hbb143 hbb145
 refine⟨?_,hE⟩
 rw[C7 hK];unfold C4;rw[h1c,h2c,h3c];rfl
open Go.RowKit
def GP(l:List Oper)(i:Nat):Option Tmp:=l[i]?.bind (·.dst)
def JB(m:List Nat):List Nat→Bool
  | []=>true
  | a :: r=>r.all (fun b=>(m.getD b 0).testBit a)&&JB m r
def N0:List Tmp→Bool
  | []=>true
  | a :: r=> !r.contains a&&N0 r
def Gu(l:List Oper)(fs:List (Nat × Tmp))(cs:List Nat):Bool:=
  (List.range l.length).all (fun i=>(fs.map Prod.fst).contains i||cs.contains i) &&
  ((match cs.getLast? with | some c=>fs.all (fun p=>((A7 l []).getD c 0).testBit p.1) | none=>false)&&(N0 (fs.map Prod.snd)&&(JB (A7 l []) cs &&
  (fs.all (fun p=>match l[p.1]? with
    | some o=>(o.guard.isNone&& !cs.contains p.1)&&(o.dst==some p.2&&(((List.range (p.1+1)).all (fun j=>match l[j]? with | some q=> !(q.looksAt l.toArray).contains p.2 | none=>true))&&((List.range l.length).all (fun j=>Nat.beq j p.1||GP l j != some p.2)&&cs.all (fun c=>match GP l c with | some d=> !(o.looksAt l.toArray).contains d | none=>true))))
    | none=>false) &&
  (cs.all (fun c=>match l[c]? with | some o=>o.guard.isNone | none=>false) &&
   l.all (fun o=>match o.op with | .select .. =>false | _=>true))))))
def chainF(P:Program)(l:List Oper)(I:World→Prop)(K:As→World→Prop):List Nat→As→World→Prop
  | [],ρ,w=>K ρ w
  | i :: r,ρ,w=>match l[i]? with
    | none=>False
    | some o=>Yk P (fun v w' =>(r= []∨I w')∧chainF P l I K r (BD ρ o.dst v) w') ((execOp (Al ρ) o).run P w)
def Ca:List (Nat × Tmp × Value)→As→As
  | [],ρ=>ρ
  | p :: r,ρ=>Ca r (G0 ρ p.2.1 p.2.2)
def Df(P:Program)(l:List Oper)(X:World→World→Prop)(I:World→Prop)(J:List PanicEntry→World→Prop)(K:As→World→Prop):List Nat→As→World→Prop
  | [],ρ,w=>K ρ w
  | i :: r,ρ,w=>match l[i]? with
    | none=>False
    | some o=>∀w0,X w w0→Yp P (fun v w' =>(r= []∨I w')∧Df P l X I J K r (BD ρ o.dst v) w') J ((execOp (Al ρ) o).run P w0)
def FloatsX(P:Program)(l:List Oper)(X:World→World→Prop)(I:World→Prop)(ρ:As):List (Nat × Tmp × Value)→Prop
  | []=>True
  | p :: r=>(match l[p.1]? with
    | none=>False
    | some o=>∀w,I w→Yk P (fun x w' =>x=p.2.2∧X w w') ((execOp (Al ρ) o).run P w))∧FloatsX P l X I ρ r
section
variable {P : Program} {l : List Oper} {X : World → World → Prop} {I : World → Prop} {J : List PanicEntry → World → Prop} {K : As → World → Prop} {ρ : As} {w : World}
theorem AI{i:Nat}{r:List Nat}{o:Oper}(ho:l[i]? =some o) 
    (h:∀w0,X w w0→Yp P (fun v w' =>(r= []∨I w')∧Df P l X I J K r (BD ρ o.dst v) w') J ((execOp (Al ρ) o).run P w0)):Df P l X I J K (i :: r) ρ w:=by
  unfold Df
  rw[ho]
  exact h
theorem AW{K' :Value→World→Prop}{r:Result Next}(h:Yk P K' r):Yp P K' J r:=Yp.ofK h
theorem N1{p:Prop}(h:p):p:=h
theorem Cu(h:K ρ w):Df P l X I J K [] ρ w:=h
end
def FloatsO(P:Program)(l:List Oper)(I:World→Prop)(ρ:As):List (Nat × Tmp × Value)→Prop
  | []=>True
  | p :: r=>(match l[p.1]? with
    | none=>False
    | some o=>∀w,I w→Yk P (fun x w' =>x=p.2.2∧w' =w) ((execOp (Al ρ) o).run P w))∧FloatsO P l I ρ r
theorem Bb{P:Program}{l:List Oper}{I:World→Prop}{K:As→World→Prop}{i:Nat}{r:List Nat}{ρ:As}{w:World}{o:Oper}(ho:l[i]? =some o) 
    (h:Yk P (fun v w' =>(r= []∨I w')∧chainF P l I K r (BD ρ o.dst v) w') ((execOp (Al ρ) o).run P w)):chainF P l I K (i :: r) ρ w:=by
  unfold chainF
  rw[ho]
  exact h
theorem D8{P:Program}{l:List Oper}{I:World→Prop}{K:As→World→Prop}{ρ:As}{w:World}(h:K ρ w):chainF P l I K [] ρ w:=h
theorem EB{ρ:As}{d:Tmp}{v:Value}:BD ρ (some d) v=G0 ρ d v:=rfl
theorem H9{ρ:As}{d:Tmp}{v:Value}:G0 ρ d v d=v:=by simp[G0]
theorem Gv{ρ:As}{d t:Tmp}{v:Value}(h:t≠d):G0 ρ d v t=ρ t:=by
  have:Nat.beq t d=false:=by rw[←Bool.not_eq_true,Nat.beq_eq];exact h
  simp[G0,this]
theorem Fw:∀(fs:List (Nat × Tmp × Value)) (ρ:As) (t:Tmp),(∀p∈fs,p.2.1≠t)→Ca fs ρ t=ρ t
  | [],_,_,_=>rfl
  | p :: r,ρ,t,h=>by
    show Ca r (G0 ρ p.2.1 p.2.2) t=_
    rw[Fw r _ t (fun q hq=>h q (by simp[hq])),Gv (fun e=>h p (by simp) e.symm)]
theorem Ha:∀(fs:List (Nat × Tmp × Value)) (ρ:As),(fs.map fun p=>p.2.1).Nodup→∀p∈fs,Ca fs ρ p.2.1=p.2.2
  | q :: r,ρ,h,p,hp=>by
    have hn:=List.nodup_cons.1 h
    show Ca r (G0 ρ q.2.1 q.2.2) p.2.1=_
    rcases List.mem_cons.1 hp with rfl | hp
    · rw[Fw r _ _ (fun x hx e=>hn.1 (List.mem_map.2 ⟨x,hx,e⟩)),H9]
    · exact Ha r _ hn.2 p hp
theorem FloatsX.get{P:Program}{l:List Oper}{X:World→World→Prop}{I:World→Prop}{ρ:As}:∀ {fs:List (Nat × Tmp × Value)},FloatsX P l X I ρ fs→∀p∈fs,∀o,l[p.1]? =some o→∀w,I w→Yk P (fun x w' =>x=p.2.2∧X w w') ((execOp (Al ρ) o).run P w)
  | q :: r,h,p,hp,o,ho,w,hI=>by
    rcases List.mem_cons.1 hp with rfl | hp
    · have h1:=h.1
      rw[ho]at h1
      exact h1 w hI
    · exact FloatsX.get h.2 p hp o ho w hI
theorem FloatsO.toX{P:Program}{l:List Oper}{I:World→Prop}{ρ:As}:∀ {fs:List (Nat × Tmp × Value)},FloatsO P l I ρ fs→FloatsX P l Eq I ρ fs
  | [],_=>trivial
  | q :: r,h=>by
    refine⟨?_,FloatsO.toX h.2⟩
    have h1:=h.1
    cases ho:l[q.1]? with
    | none=>rw[ho]at h1;exact h1
    | some o=>rw[ho]at h1;exact fun w hw=>Yk.mono (h1 w hw) fun _ _ h=>⟨h.1,h.2.symm⟩
theorem chainF.toX{P:Program}{l:List Oper}{I:World→Prop}{J:List PanicEntry→World→Prop}{K:As→World→Prop}:∀ {cs:List Nat} {ρ:As} {w:World},chainF P l I K cs ρ w→Df P l Eq I J K cs ρ w
  | [],_,_,h=>h
  | i :: r,ρ,w,h=>by
    unfold chainF at h
    unfold Df
    cases ho:l[i]? with
    | none=>rw[ho]at h;exact h
    | some o=>rw[ho]at h;exact fun w0 e=>by subst e;exact .ofK (Yk.mono h fun _ _ h=>⟨h.1,chainF.toX h.2⟩)
theorem pairB_get{m:List Nat}:∀ {cs:List Nat},JB m cs=true→∀a b (u v:List Nat),cs=u++a :: v→b∈v→(m.getD b 0).testBit a=true
  | [],_,a,b,u,v,e,_=>by simp at e
  | x :: r,h,a,b,u,v,e,hb=>by
    unfold JB at h
    rw[Bool.and_eq_true]at h
    cases u with
    | nil=>
      simp at e
      obtain⟨rfl,rfl⟩:=e
      exact List.all_eq_true.1 h.1 b hb
    | cons y u=>
      simp at e
      exact pairB_get h.2 a b u v e.2 hb
theorem Ia{ρ σ:As}{o:Oper}{ops:Array Oper}(hs:∀cs b,o.op ≠ .select cs b)(h:∀t∈o.looksAt ops,σ t=ρ t):execOp (Al σ) o=execOp (Al ρ) o:=
  execOp_congr o hs fun x hx=>by
    cases x with
    | tmp t=>exact h t (List.mem_append_left _ (List.mem_filterMap.2 ⟨.tmp t,by simpa using hx,rfl⟩))
    | _=>rfl
section
variable {P : Program} {n : Nat} {ρ : As} {w : World} {Q : Cg} {l : List Oper} {fs : List (Nat × Tmp × Value)} {cs : List Nat} {I : World → Prop}
structure OI (l : List Oper) (fs : List (Nat × Tmp × Value)) (cs : List Nat) (X : World → World → Prop) (I : World → Prop) (n : Nat) (ρf ρc : As) (wc : World) (rest : List Nat) (listed : Array Bool) (a : Act) (w : World) : Prop where
  size:listed.size=l.length
  closed:∀i o,l[i]? =some o→On listed i→∀e∈o.after,Region.binds .any e=true→On listed e.on
  tmps:a.tmps.size=n
  defers:a.defers= []
  suffix:∃u,cs=u++rest∧(∀c∈u,On listed c)∧∀c∈rest,¬On listed c
  agree:∀t,(∀p∈fs,¬On listed p.1→p.2.1≠t)→a.tmps.getD t undef=ρc t
  ghost:∀t,(∀c∈cs,GP l c≠some t)→ρc t=ρf t
  inv:rest= []∨I w
  turn:X wc w
  same:rest= []→wc=w
theorem J5{a:Act}{o:Oper}{K:Act→World→Prop}{Q' :Exit→Act→World→Prop}(h:Yk P (fun v w' =>K (a.put o.dst v) w') ((execOp a.eval o).run P w)):o.wp P a w K Q' :=by
  unfold Oper.wp Oper.upon
  revert h
  generalize (execOp a.eval o).run P w=r
  intro h
  match r,h with
  | .ok (.value v) w',h=>exact h
  | .ok .skip w',h=>exact h
  | .ok (.enter f args) w',h=>
    refine Calls.mono h ?_
    rintro e w'' ⟨v,rfl,hk⟩
    exact hk
theorem Js{a:Act}{o:Oper}{K:Act→World→Prop}{Q' :Exit→Act→World→Prop}{J:List PanicEntry→World→Prop}(h:Yp P (fun v w' =>K (a.put o.dst v) w') J ((execOp a.eval o).run P w))(hJ:∀ch w',J ch w' →Q' (.panic ch) a w'):o.wp P a w K Q' :=by
  unfold Oper.wp Oper.upon
  revert h
  generalize (execOp a.eval o).run P w=r
  intro h
  match r,h with
  | .ok (.value v) w',h=>exact h
  | .ok .skip w',h=>exact h
  | .halt (.panic v) w',h=>exact hJ _ _ h
  | .ok (.enter f args) w',h=>
    refine Calls.mono h ?_
    intro e w'' hx
    match e,hx with
    | .returned v,hx=>exact hx
    | .panicked ch,hx=>exact hJ _ _ hx
theorem IU:∀ {l:List Tmp},N0 l=true→l.Nodup
  | [],_=>List.nodup_nil
  | a :: r,h=>by
    unfold N0 at h
    rw[Bool.and_eq_true]at h
    refine List.nodup_cons.2 ⟨fun hm=> ?_,IU h.2⟩
    have:=h.1
    rw[List.contains_iff_mem.2 hm]at this
    cases this
theorem float_any{X:World→World→Prop}(hX:∀a,X a a)(hXt:∀a b c,X a b→X b c→X a c)(hIX:∀a b,I a→X a b→I b)(hg:Cw l n=true)(hb:Gu l (fs.map fun p=>(p.1,p.2.1)) cs=true)(hf:FloatsX P l X I (Ca fs ρ) fs):
    ∀(fuel:Nat) (listed:Array Bool) (a:Act) (w:World) (ρc:As) (wc:World) (rest:List Nat),(listed.toList.filter (!·)).length=fuel→OI l fs cs X I n (Ca fs ρ) ρc wc rest listed a w→Df P l X I (fun ch w' =>∀ρ',Q (.panic ch) ρ' w') (fun ρ w=>Q .normal ρ w) rest ρc wc →
      wpAny P .any l.toArray (fun e a' w' =>∃ρ',Fits n ρ' a' ∧Q e ρ' w') fuel listed a w:=by
  have g:=EP hg
  unfold Gu at hb
  simp only[Bool.and_eq_true]at hb
  obtain⟨hcov,hlast,hnd,hpair,hfl,hcg,hsel⟩:=hb
  have hcov' :∀i,i<l.length→(∃p∈fs,p.1=i)∨i∈cs:=fun i hi=>by
    have:=List.all_eq_true.1 hcov i (by simpa using hi)
    rw[Bool.or_eq_true]at this
    rcases this with h | h
    · left
      have:=List.contains_iff_mem.1 h
      simp at this
      obtain⟨d,v,h⟩:=this
      exact⟨_,h,rfl⟩
    · exact .inr (List.contains_iff_mem.1 h)
  have hfl' :∀p∈fs,∃o,l[p.1]? =some o∧o.guard=none∧p.1∉cs∧o.dst=some p.2.1∧(∀j q,j≤p.1→l[j]? =some q→p.2.1∉q.looksAt l.toArray)∧(∀j,j<l.length→j≠p.1→GP l j≠some p.2.1)∧∀c∈cs,∀d,GP l c=some d→d∉o.looksAt l.toArray:=fun p hp=>by
    have:=List.all_eq_true.1 hfl (p.1,p.2.1) (List.mem_map.2 ⟨p,hp,rfl⟩)
    dsimp only at this
    cases ho:l[p.1]? with
    | none=>rw[ho]at this;cases this
    | some o=>
      rw[ho]at this
      simp only[Bool.and_eq_true]at this
      obtain⟨⟨h1,h1c⟩,h2,h5,h3,h4⟩:=this
      refine⟨o,rfl,by simpa using h1,fun hc=> ?_,by simpa using h2,fun j q hj hq hx=> ?_,fun j hj hne e=> ?_,fun c hc d hd hx=> ?_⟩
      · rw[List.contains_iff_mem.2 hc]at h1c;cases h1c
      · have:=List.all_eq_true.1 h5 j (by simp;omega)
        rw[hq]at this
        simp only at this
        rw[List.contains_iff_mem.2 hx]at this
        cases this
      · have:=List.all_eq_true.1 h3 j (by simpa using hj)
        rw[Bool.or_eq_true]at this
        rcases this with h | h
        · exact hne (Nat.eq_of_beq_eq_true h)
        · rw[e]at h;simp at h
      · have:=List.all_eq_true.1 h4 c hc
        rw[hd]at this
        simp only at this
        rw[List.contains_iff_mem.2 hx]at this
        cases this
  have hcg' :∀c∈cs,∃o,l[c]? =some o∧o.guard=none:=fun c hc=>by
    have:=List.all_eq_true.1 hcg c hc
    cases ho:l[c]? with
    | none=>rw[ho]at this;cases this
    | some o=>rw[ho]at this;exact⟨o,rfl,by simpa using this⟩
  have hsel' :∀(i:Nat) (o:Oper),l[i]? =some o→∀cs b,o.op≠Op.select cs b:=fun i o ho cs b e=>by
    have:=List.all_eq_true.1 hsel o (List.mem_of_getElem? ho)
    rw[e]at this
    cases this
  have hnew:∀p∈fs,Ca fs ρ p.2.1=p.2.2:=Ha fs ρ (by
    have:=IU hnd
    rw[List.map_map]at this
    exact this)
  have hlt:∀(i:Nat) (o:Oper),l[i]? =some o→i<l.length:=fun i o ho=>(List.getElem?_eq_some_iff.1 ho).1
  -- all are done
  have fin:∀(listed:Array Bool) (a:Act) (w:World) (ρc:As) (wc:World) (rest:List Nat),OI l fs cs X I n (Ca fs ρ) ρc wc rest listed a w→Df P l X I (fun ch w' =>∀ρ',Q (.panic ch) ρ' w') (fun ρ w=>Q .normal ρ w) rest ρc wc→(∀i,i<l.length→On listed i)→∃ρ',Fits n ρ' a∧Q .normal ρ' w:=fun listed a w ρc wc rest h hc hall=>by
    obtain⟨u,hu,m,s⟩:=h.suffix
    cases rest with
    | nil=>exact⟨ρc,⟨h.tmps,h.defers,fun t=>h.agree t (fun p hp hno=>by
        obtain⟨o,ho,-⟩:=hfl' p hp
        exact absurd (hall p.1 (hlt _ _ ho)) hno)⟩,by have e:=h.same rfl;subst e;exact hc⟩
    | cons c r=>
      obtain⟨o,ho,-⟩:=hcg' c (by rw[hu];simp)
      exact absurd (hall c (hlt _ _ ho)) (s c (by simp))
  intro fuel
  induction fuel with
  | zero=>
    intro listed a w ρc wc rest hfu h hc
    have full:∀i,i<l.length→On listed i:=fun i hi=>by
      have:=DM _ hfu i (by rw[Array.length_toList,h.size];omega)
      unfold On
      simp at this
      simp[this]
    refine⟨?_,fin listed a w ρc wc rest h hc full⟩
    cases hr:Region.ready .any l.toArray listed with
    | nil=>rfl
    | cons x xs=>
      exfalso
      have hmem:x∈Region.ready .any l.toArray listed:=by rw[hr];simp
      obtain⟨h1,o,ho,_⟩:=mem_ready.1 hmem
      have hx:x<l.length:=by simpa using (Array.getElem?_eq_some_iff.1 ho).1
      have h2:=full x hx
      have hx' :x<listed.size:=h2.lt
      unfold On at h2
      simp[hx']at h1 h2
      rw[h1]at h2
      cases h2
  | succ fuel ih=>
    intro listed a w ρc wc rest hfu h hc
    refine⟨fun hr=>fin listed a w ρc wc rest h hc fun i=> ?_,fun i hi=> ?_⟩
    · induction i using Nat.strongRecOn with
      | _ i ih2=>
        intro hi
        refine Classical.byContradiction fun hno=> ?_
        have ho:l[i]? =some l[i]:=List.getElem?_eq_getElem hi
        have:i∈Region.ready .any l.toArray listed:=by
          refine mem_ready.2 ⟨?_,l[i],by rw[List.getElem?_toArray];exact ho,fun e he hb=> ?_⟩
          · have hi' :i<listed.size:=by rw[h.size];exact hi
            unfold On at hno
            simp[hi']at hno ⊢
            exact hno
          · have hlt:=g.back i _ ho e he hb
            exact ih2 e.on hlt (by omega)
        rw[hr]at this
        cases this
    · obtain⟨h1,o,ho,hall0⟩:=mem_ready.1 hi
      have ho' :l[i]? =some o:=by simpa using ho
      have hilt:i<l.length:=hlt i o ho'
      have hil:i<listed.size:=by rw[h.size];exact hilt
      have hno:¬On listed i:=by
        unfold On
        simp[hil]at h1 ⊢
        exact h1
      have hall:∀e∈o.after,Region.binds .any e=true→On listed e.on:=fun e he hb=>hall0 e he hb
      have hI:Inv l (fun _=> []) (fun _ _=>True) (fun _ _=>True) (fun _ _ _=>True) a listed a w:=
        ⟨h.size,h.closed,rfl,rfl,fun _ _ _=>trivial,trivial,fun _ _=>rfl,fun _ _ _ _ _ _ _ _=>trivial⟩
      have hmr:∀k,((A7 l []).getD i 0).testBit k=true→On listed k:=fun k hk=>hI.maskReady ho' hall hk
      have hcnt:((listed.setIfInBounds i true).toList.filter (!·)).length=fuel:=by
        rw[Array.toList_setIfInBounds]
        have:=D5 listed.toList i (by
          simp[hil]at h1
          simp[hil,h1])
        omega
      have hcl:∀j oj,l[j]? =some oj→On (listed.setIfInBounds i true) j→∀e∈oj.after,Region.binds .any e=true→On (listed.setIfInBounds i true) e.on:=fun j oj hj hon e he hb=>by
        rcases(on_set hil).1 hon with rfl | hon
        · obtain rfl:o=oj:=by rw[ho']at hj;exact Option.some.inj hj
          exact(on_set hil).2 (.inr (hall e he hb))
        · exact(on_set hil).2 (.inr (h.closed j oj hj hon e he hb))
      have hF:Fits n (fun t=>a.tmps.getD t undef) a:=⟨h.tmps,h.defers,fun t=>rfl⟩
      have hroom:∀t,o.dst=some t→t<n:=fun t ht=>g.room i o t ho' ht
      -- what it looks at is as in the frame in order
      have hlook:∀t∈o.looksAt l.toArray,a.tmps.getD t undef=ρc t:=fun t ht=>h.agree t fun q hq hnq e=>by
        subst e
        obtain⟨oq,hoq,-,-,hdq,hearly,-⟩:=hfl' q hq
        by_cases hqi:i≤q.1
        · exact hearly i o hqi ho' ht
        · exact hnq (hmr q.1 (g.tied i o q.1 oq q.2.1 ho' hoq (by omega) (.inl ⟨hdq,List.mem_append_right _ ht⟩)))
      unfold wpOp
      simp only[List.getElem?_toArray,ho']
      obtain⟨u,hu,m,s⟩:=h.suffix
      have hguard:o.guard=none:=by
        rcases hcov' i hilt with ⟨p,hp,rfl⟩ | hic
        · obtain⟨o2,f,h2,-⟩:=hfl' p hp
          rw[ho']at f
          cases f
          exact h2
        · obtain⟨o2,f,h2⟩:=hcg' i hic
          rw[ho']at f
          cases f
          exact h2
      have hw:Region.wanted o (yielded l.toArray a.tmps)=true:=by unfold Region.wanted;rw[hguard]
      rw[if_pos hw]
      rcases hcov' i hilt with ⟨p,hp,rfl⟩ | hic
      · refine .inl (J5 ?_)
        rw[hF.eval]
        obtain⟨o2,f,h2,hpc,hpd,hearly,huniq,hpl⟩:=hfl' p hp
        rw[ho']at f
        cases f
        have hghost:∀t∈o.looksAt l.toArray,a.tmps.getD t undef=Ca fs ρ t:=fun t ht=>(hlook t ht).trans (h.ghost t fun c hc e=>hpl c hc t e ht)
        rw[Ia (ρ:=Ca fs ρ) (hsel' _ _ ho') hghost]
        have hrn:rest≠ []:=fun e=>by
          subst e
          rw[List.append_nil]at hu
          cases hgl:cs.getLast? with
          | none=>rw[hgl]at hlast;cases hlast
          | some c=>
            rw[hgl]at hlast
            have hcm:c∈cs:=List.mem_of_getLast? hgl
            have y:=List.all_eq_true.1 hlast (p.1,p.2.1) (List.mem_map.2 ⟨p,hp,rfl⟩)
            exact absurd (hI.mask c p.1 (m c (hu▸hcm)) y) hno
        have hIw:I w:=h.inv.elim (fun e=>absurd e hrn) (fun x=>x)
        refine Yk.mono (hf.get p hp o ho' w hIw) ?_
        rintro v w' ⟨rfl,hxw⟩
        refine ih _ _ _ ρc wc rest hcnt ⟨by simpa using h.size,hcl,(hF.put o.dst hroom _).size,(hF.put o.dst hroom _).defers,⟨u,hu,fun c hc=>(on_set hil).2 (.inr (m c hc)),fun c hc hx=> ?_⟩,fun t ht=> ?_,h.ghost, .inr (hIX _ _ hIw hxw),hXt _ _ _ h.turn hxw,fun e=>absurd e hrn⟩ hc
        · rcases(on_set hil).1 hx with rfl | hx
          · exact hpc (by rw[hu];exact List.mem_append_right _ hc)
          · exact s c hc hx
        · rw[(hF.put o.dst hroom _).get t,hpd]
          by_cases e:t=p.2.1
          · subst e
            rw[EB,H9,h.ghost _ (fun c hc e=> ?_),hnew p hp]
            obtain⟨oc,hoc,-⟩:=hcg' c hc
            exact huniq c (hlt _ _ hoc) (fun x=>hpc (x▸hc)) e
          · rw[EB,Gv e]
            refine h.agree t fun q hq hnq=> ?_
            by_cases hqi:q.1=p.1
            · obtain⟨oq,hoq,-,-,hdq,-⟩:=hfl' q hq
              rw[hqi,ho']at hoq
              cases hoq
              rw[hpd]at hdq
              exact fun x=>e (x.symm.trans (Option.some.inj hdq).symm)
            · exact ht q hq (fun x=>by
                rcases(on_set hil).1 x with x | x
                · exact hqi x
                · exact hnq x)
      · have hir:i∈rest:=by
          rw[hu]at hic
          rcases List.mem_append.1 hic with x | x
          · exact absurd (m i x) hno
          · exact x
        cases rest with
        | nil=>cases hir
        | cons b r=>
          have hib:i=b:=by
            refine Classical.byContradiction fun hne=> ?_
            rcases List.mem_cons.1 hir with x | x
            · exact hne x
            · exact s b (by simp) (hmr b (pairB_get hpair b i u r hu x))
          subst hib
          have hc' :Yp P (fun v w' =>(r= []∨I w')∧Df P l X I (fun ch w' =>∀ρ',Q (.panic ch) ρ' w') (fun ρ w=>Q .normal ρ w) r (BD ρc o.dst v) w') (fun ch w' =>∀ρ',Q (.panic ch) ρ' w') ((execOp (Al ρc) o).run P w):=by
            unfold Df at hc
            rw[ho']at hc
            exact hc w h.turn
          refine .inl (Js (J:=fun ch w' =>∀ρ',Q (.panic ch) ρ' w') ?_ fun ch w' h=>⟨_,hF,h _⟩)
          rw[hF.eval]
          rw[Ia (ρ:=ρc) (hsel' _ _ ho') hlook]
          refine Yp.mono' hc' ?_ fun _ _ h=>h
          rintro v w' ⟨hIw,hcr⟩
          refine ih _ _ _ _ w' r hcnt ⟨by simpa using h.size,hcl,(hF.put o.dst hroom _).size,(hF.put o.dst hroom _).defers,⟨u++ [i],by rw[hu];simp,fun c hcm=> ?_,fun c hcm hx=> ?_⟩,fun t ht=> ?_,fun t ht=> ?_,hIw,hX _,fun _=>rfl⟩ hcr
          · rcases List.mem_append.1 hcm with x | x
            · exact(on_set hil).2 (.inr (m c x))
            · exact(on_set hil).2 (.inl (List.mem_singleton.1 x))
          · rcases(on_set hil).1 hx with rfl | hx
            · exact hno (hmr c (pairB_get hpair c c u r hu hcm))
            · exact s c (by simp[hcm]) hx
          · rw[(hF.put o.dst hroom _).get t]
            cases hd:o.dst with
            | none=>
              exact h.agree t fun q hq hnq=>ht q hq (fun x=>by
                rcases(on_set hil).1 x with x | x
                · obtain⟨_,_,_,hpc,_⟩:=hfl' q hq
                  exact hpc (x▸hic)
                · exact hnq x)
            | some d=>
              rw[EB,EB]
              by_cases e:t=d
              · subst e;rw[H9,H9]
              · rw[Gv e,Gv e]
                exact h.agree t fun q hq hnq=>ht q hq (fun x=>by
                  rcases(on_set hil).1 x with x | x
                  · obtain⟨_,_,_,hpc,_⟩:=hfl' q hq
                    exact hpc (x▸hic)
                  · exact hnq x)
          · have hne:=ht i hic
            unfold GP at hne
            rw[ho']at hne
            simp only[Option.bind_some]at hne
            cases hd:o.dst with
            | none=>exact h.ghost t ht
            | some d=>
              rw[hd]at hne
              rw[EB,Gv (fun e=>hne (by rw[e]))]
              exact h.ghost t ht
theorem Ib{X:World→World→Prop}(hX:∀a,X a a)(hXt:∀a b c,X a b→X b c→X a c)(fs:List (Nat × Tmp × Value))(cs:List Nat)(I:World→Prop)(hIX:∀a b,I a→X a b→I b){id:Nat}(hm:P.follows .mixedOrders=true)(hg:Cw l n=true)(hb:Gu l (fs.map fun p=>(p.1,p.2.1)) cs=true)(hI:I w.drew)(hf:FloatsX P l X I (Ca fs ρ) fs) 
    (hc:Df P l X I (fun ch w' =>∀ρ',Q (.panic ch) ρ' w') (fun ρ w=>Q .normal ρ w) cs (Ca fs ρ) w.drew):Ce P n (.region id l.toArray true) Q ρ w:=by
  intro a ha
  exact wp_region_any hm (float_any hX hXt hIX (ρ:=ρ) hg hb hf _ _ _ _ (Ca fs ρ) w.drew cs (by simp) ⟨by simp,fun i o _ h=>absurd h On.not_replicate,ha.size,ha.defers,⟨[],rfl,(fun c hc=>by cases hc),fun c _ h=>On.not_replicate h⟩,fun t ht=>(ha.get t).trans (Fw fs ρ t (fun p hp=>ht p hp On.not_replicate)).symm,fun t _=>rfl, .inr hI,hX _,fun _=>rfl⟩ hc)
theorem Dj(fs:List (Nat × Tmp × Value))(cs:List Nat)(I:World→Prop){id:Nat}(hm:P.follows .mixedOrders=true)(hg:Cw l n=true)(hb:Gu l (fs.map fun p=>(p.1,p.2.1)) cs=true)(hI:I w.drew)(hf:FloatsO P l I (Ca fs ρ) fs) 
    (hc:chainF P l I (fun ρ w=>Q .normal ρ w) cs (Ca fs ρ) w.drew):Ce P n (.region id l.toArray true) Q ρ w:=
  Ib (X:=Eq) (fun _=>rfl) (fun _ _ _ h1 h2=>h1.trans h2) fs cs I (fun _ _ h e=>e▸h) hm hg hb hI hf.toX hc.toX
theorem BL(fs:List (Nat × Tmp × Value))(cs:List Nat)(I:World→Prop)(hIX:∀a b,I a→Ext a b→I b){id:Nat}(hm:P.follows .mixedOrders=true)(hg:Cw l n=true)(hb:Gu l (fs.map fun p=>(p.1,p.2.1)) cs=true)(hI:I w.drew)(hf:FloatsX P l Ext I (Ca fs ρ) fs) 
    (hc:Df P l Ext I (fun ch w' =>∀ρ',Q (.panic ch) ρ' w') (fun ρ w=>Q .normal ρ w) cs (Ca fs ρ) w.drew):Ce P n (.region id l.toArray true) Q ρ w:=
  Ib Ext.refl (fun _ _ _ h1 h2=>h1.trans h2) fs cs I hIX hm hg hb hI hf hc
end
open Go.RowKit
set_option maxHeartbeats 400000 in
theorem KH(w:World)(v:Value)(l:List UInt8)(hr:RB w v l)(s:ByteArray)(hl:l.length+s.size+16≤140737488355328):
    Calls Tryd.prog 52 #[v, .string s] w fun e w' =>∃v',e = .returned v' ∧NewB 5 w w' v' (l++Lib.uvarint s.size++s.data.toList):=by
  obtain⟨i0,hi,a,b,c⟩:=info_parts Hz
  have h9:=C0 s.size (by omega)
  have hss:s.data.toList.length=s.size:=by simp
  have HSS:=Lib.hid hss
  clear hss
  go_enter Tryd.func52,Tryd.ntmps52
  go_wp2_with fail
  refine(In _ _ l hr (by omega)).mono ?_
  rintro e w1 ⟨f,rfl,h1⟩
  go_wp2_with fail
  refine(HA w.heap.size l.length s.size (by omega) f _ w1 h1.own h1.by_.size (by omega)).mono ?_
  rintro e h ⟨i,rfl,ho,g⟩
  have h2:=h1.more g ho
  go_wp2_with (at_builtin;refine B5 _ rfl _ _ 26 9 rfl w.heap.size 5 i0 (.int .u8 0) 1 1 El hi a b c rfl _ _ _ rfl h2.own (.string s) _ _ rfl (IF Nj _ s) ?c1 ?c2 ?c3 ?_)
  case c1=>have:=HSS.out;rw[this,List.length_append];unfold maxLen;omega
  case c2=>have:=HSS.out;rw[this,List.length_append];omega
  case c3=>exact h2.by_.size
  intro v' j hown' hgrow
  go_wp2
  go_ret
  exact⟨v',rfl,h2.more hgrow (by rw[HSS.out,List.length_append];exact hown')⟩

set_option maxHeartbeats 400000 in
theorem KI(w:World)(s:ByteArray)(hl:s.size+16≤140737488355328):
    Calls Tryd.prog 102 #[.string s] w fun e w' =>∃v',e = .returned v' ∧NewB 5 w w' v' (Lib.uvarint s.size++s.data.toList):=by
  obtain⟨i0,hi,a,b,c⟩:=info_parts Hz
  have h9:=C0 s.size (by omega)
  have hss:s.data.toList.length=s.size:=by simp
  have HSS:=Lib.hid hss
  clear hss
  go_enter Tryd.func102,Tryd.ntmps102
  go_wp2_with fail
  refine(DZ _ s.size (by omega)).mono ?_
  rintro e w1 ⟨f,rfl,h2⟩
  go_wp2_with (at_builtin;refine B5 _ rfl _ _ 26 9 rfl w.heap.size 5 i0 (.int .u8 0) 1 1 El hi a b c rfl _ _ _ rfl h2.own (.string s) _ _ rfl (IF Nj _ s) ?c1 ?c2 ?c3 ?_)
  case c1=>have:=HSS.out;rw[this];unfold maxLen;omega
  case c2=>have:=HSS.out;rw[this];omega
  case c3=>exact h2.by_.size
  intro v' g hown' hgrow
  go_wp2
  go_ret
  exact⟨v',rfl,h2.more hgrow (by rw[HSS.out];exact hown')⟩
open Go.RowKit
def Bq(s:Bs):Bs:=Lib.uvarint s.length++s
def B4(u:AJ):Bs:= [u.kind]++Bq u.name++u.new.1
def CK(l:List Bs):Bs:=Lib.uvarint l.length++l.flatMap fun x=>x
def Ej(b:Bool):UInt8:=bif b then 1 else 0
def Ba(m:Msg):Bs:=
  if m.kind=2 then Lib.uvarint m.refs.length++m.refs.flatMap B4
  else if m.kind=3 then CK m.wants++CK m.haves
  else if m.kind=4 then Lib.uvarint m.size.toNat++m.id.1
  else if m.kind=5 then Lib.uvarint m.at_.toNat
  else if m.kind=6 then Lib.uvarint m.at_.toNat++Bq m.bytes
  else if m.kind=7 then Lib.uvarint m.size.toNat++(m.id.1++(Bq m.name++(m.old.1++(m.new.1++ [Ej m.force]))))
  else if m.kind=8 then Lib.uvarint m.code.toNat
  else []
def encB(m:Msg):Bs:=m.kind :: (Lib.uvarint m.session.toNat++Ba m)
theorem DT{m:Msg}(h:rightB m=true):∃p,AV m.kind=some p∧C4 m p=true:=by
  unfold rightB at h
  split at h
  · cases h
  · rename_i p hp
    exact⟨p,hp,h⟩
theorem CX{k:UInt8}{p:Ai}(h:AV k=some p):
    (k=1∧p=⟨false,false,false,false,false,false,false,false⟩)∨(k=2∧p=⟨true,false,false,false,false,false,false,false⟩)∨(k=3∧p=⟨false,true,false,false,false,false,false,false⟩)∨(k=4∧p=⟨false,false,true,false,true,false,false,false⟩)∨(k=5∧p=⟨false,false,false,true,false,false,false,false⟩)∨(k=6∧p=⟨false,false,false,true,false,true,false,false⟩)∨(k=7∧p=⟨false,false,true,false,true,false,true,false⟩)∨(k=8∧p=⟨false,false,false,false,false,false,false,true⟩):=by
  unfold AV updM at h
  split at h
  · cases h;rename_i e;simp[e]
  · split at h
    · cases h;rename_i e;simp[e]
    · split at h
      · cases h;rename_i e;simp[e]
      · split at h
        · cases h;rename_i e;simp[e]
        · split at h
          · cases h;rename_i e;simp[e]
          · split at h
            · cases h;rename_i e;simp[e]
            · split at h
              · cases h;rename_i e;simp[e]
              · split at h
                · cases h;rename_i e;simp[e,BA]
                · cases h
structure OJ (m : Msg) (p : Ai) : Prop where
  session:0≤m.session∧m.session≤2147483647
  size:0≤m.size∧m.size≤1048576
  at_:0≤m.at_∧m.at_≤1048576
  code:0≤m.code∧m.code≤22
  refs:m.refs.length≤128∧∀u∈m.refs,u.name.length≤32
  wants:m.wants.length≤65536
  haves:m.haves.length≤65536
  bytes:p.bytes=true→m.bytes.length≤256
  name:p.push=true→m.name.length≤32
theorem EO{n m:Int}(h:boundB n m=true):0≤n∧n≤m:=by
  unfold boundB at h
  simp only[Bool.and_eq_true,decide_eq_true_eq]at h
  omega
theorem Ms{u:AJ}(h:EF u=false):u.name.length≤32:=by
  unfold EF at h
  simp only[Bool.or_eq_false_iff]at h
  have h1:=h.1.1.2
  exact(IK (by simpa using h1)).2
theorem listB_facts{l:List AJ}(h:BG l=true):l.length≤128∧∀u∈l,u.name.length≤32:=by
  classical
  unfold BG at h
  have h1:=of_decide_eq_true h
  refine⟨h1.2,fun u hu=> ?_⟩
  obtain⟨i,hi,rfl⟩:=List.getElem_of_mem hu
  have:=(h1.1 i hi).1
  rw[List.getD_eq_getElem?_getD,List.getElem?_eq_getElem hi]at this
  exact Ms this
theorem J6{l:List Bs}(h:BT l=true):l.length≤65536:=by
  unfold BT at h
  simp only[Bool.and_eq_true,decide_eq_true_eq]at h
  exact h.1.1
theorem Dg{m:Msg}{p:Ai}(h:C4 m p=true):OJ m p:=by
  unfold C4 at h
  simp only[Bool.and_eq_true,Bool.not_eq_true',Bool.or_eq_false_iff,Bool.not_eq_false']at h
  obtain⟨⟨⟨⟨⟨h1,h2⟩,h3⟩,h4⟩,h5⟩,⟨⟨h6,h7⟩,h8⟩,h9,h10⟩:=h
  refine⟨EO h1,EO h6,EO h7,EO h8,listB_facts h3,J6 h4,J6 h5,fun hp=> ?_,fun hp=> ?_⟩
  · rw[hp]at h9
    simp at h9
    omega
  · rw[hp]at h10
    simp at h10
    exact(IK h10.1).2
theorem Nv{u:AJ}(h:u.name.length≤32):(B4 u).length≤74:=by
  unfold B4 Bq
  have:=C0 u.name.length (by omega)
  simp only[List.length_append,List.length_singleton,u.new.2]
  omega
theorem EC:∀ {l:List AJ},(∀u∈l,u.name.length≤32)→(l.flatMap B4).length≤74*l.length
  | [],_=>Nat.le_refl _
  | u :: r,h=>by
    have h1:=Nv (h u (by simp))
    have h2:=EC (l:=r) (fun x hx=>h x (by simp[hx]))
    rw[List.flatMap_cons,List.length_append,List.length_cons]
    omega
theorem IV{l:List AJ}{i:Nat}(h:i<l.length):((l.take (i+1)).flatMap B4)=((l.take i).flatMap B4)++B4 (l.getD i Ac):=by
  rw[List.take_succ_eq_append_getElem h,List.flatMap_append,List.flatMap_singleton,List.getD_eq_getElem?_getD,List.getElem?_eq_getElem h]
  rfl
theorem Hl(w:World)(v:Value)(l:Bs)(hr:RB w v l)(s:Bs)(hl:l.length+s.length+16≤140737488355328):
    Calls Tryd.prog 52 #[v,St s] w fun e w' =>∃v',e = .returned v' ∧NewB 5 w w' v' (l++Bq s):=by
  have hs:(⟨s.toArray⟩:ByteArray).size=s.length:=by show s.toArray.size=_;rw[List.size_toArray]
  have h:=KH w v l hr ⟨s.toArray⟩ (by rw[hs];omega)
  have e:l++Lib.uvarint (⟨s.toArray⟩:ByteArray).size++(⟨s.toArray⟩:ByteArray).data.toList=l++Bq s:=by
    unfold Bq
    rw[hs,List.append_assoc]
  rw[e]at h
  exact h
theorem IW{l:List Bs}{i:Nat}(h:i<l.length):((l.take (i+1)).flatMap fun x=>x)=((l.take i).flatMap fun x=>x)++l.getD i []:=by
  rw[List.take_succ_eq_append_getElem h,List.flatMap_append,List.flatMap_singleton,List.getD_eq_getElem?_getD,List.getElem?_eq_getElem h]
  rfl
theorem RG.lens{w:World}{v:Value}{l:List Bs}(h:RG 32 Lib.byteCells w v l):∀x∈l,x.length=32:=fun x hx=>A3 (h.1 x hx)
theorem FV:∀ {l:List Bs},(∀x∈l,x.length=32)→(l.flatMap fun x=>x).length=32*l.length
  | [],_=>rfl
  | a :: r,h=>by rw[List.flatMap_cons,List.length_append,h a (by simp),FV (fun x hx=>h x (by simp[hx])),List.length_cons];omega
theorem Gb{l:List Bs}(h:∀x∈l,x.length=32)(i:Nat)(hi:i≤l.length):((l.take i).flatMap fun x=>x).length=32*i:=by
  rw[FV (fun x hx=>h x (List.mem_of_mem_take hx)),List.length_take]
  omega
theorem Bx{n:Nat}(h:n≤9223372036854775807):(Lib.uvarint n).length≤9:=C0 n (by omega)
theorem FW{l:List Bs}(h:∀x∈l,x.length=32)(hl:l.length≤65536):(CK l).length≤2097200:=by
  unfold CK
  have h1:=C0 l.length (by omega)
  rw[List.length_append,FV h]
  omega
open Go.RowKit
set_option maxRecDepth 100000
theorem Mt:AN Tryd.prog 100:=fun _ _=>by kernel_rfl
theorem Nw:AN Tryd.prog 48:=fun _ _=>by kernel_rfl
theorem IX:(Tryd.prog.info? 26).map (·.size)=some 1:=by kernel_rfl
theorem Nx:Tryd.prog.underlying 89=some (.func #[3] #[] false):=by kernel_rfl
theorem Ny:AN Tryd.prog 47:=fun _ _=>by kernel_rfl
set_option maxHeartbeats 1600000
theorem ED(w:World)(v:Value)(l:Bs)(hr:RB w v l)(hl:l.length+64≤140737488355328)(id:CI):
  Calls Tryd.prog 51 #[v,AB id.1] w fun e w' =>∃v',e = .returned v' ∧NewB 5 w w' v' (l++id.1):=by
 refine calls_of_wpF (args:= [v,AB id.1]) Tryd.func51 rfl 9 rfl (Nat.le_of_ble_eq_true rfl) ?_
 intro m hb
 have q:m 0=(v:Value):=hb.get 0
 have r:m 1=(AB id.1:Value):=hb.get 1
 clear hb
 have hE:=Ext.refl w
 refine sk fun K1 s=>(wt (oS rfl (Yk.box (cs:=(Lib.byteCells id.1:List Value).toArray) r fun b c ac n t ad=> ?_)))
 have hE:=hE.trans t
 have a:=n;clear n
 have ae:b<c.heap.size:=by omega
 refine oA rfl (oZ (tN (s _ _ (sk fun af u=> ?_))))
 have o:Ext c (World.drew c):=(Below.refl _ _).drew
 have hE:=hE.trans o
 have a:=eb o a
 refine Dj [(2,7, .slice (some ⟨b,0,none⟩) 32 32)] [0,1,3,4] (fun wz=>Ext w wz∧wz.heap[b]? =some (.cells (Lib.byteCells id.1).toArray 25 (0,0))∧True) (by kernel_rfl) (by kernel_rfl) (by kernel_rfl) ⟨hE,a,trivial⟩ ⟨fun ag ⟨hE,a,_⟩=>Yk.sliceArr NV Lt (vr (PQ b 0) rfl) ⟨rfl,rfl⟩,trivial⟩ (Bb rfl (Yk.move q ?_))
 refine⟨.inr ⟨hE,a,trivial⟩,?_⟩
 refine Bb rfl (Yk.callA1 Mt (vr v rfl) ((In _ v (l) (hr.keep hE) (by omega)).mono ?_))
 rintro e x ⟨k,rfl,f⟩
 refine⟨_,rfl,?_⟩
 have h:=Ext.refl (World.drew c)
 have ah:=hE
 have y:w.heap.size≤(World.drew c).heap.size:=hE.size
 have p:OB k b:=AY f.own (bl a)
 have hE:=hE.trans f.ext
 have a:=eb f.ext a
 have h:=h.trans f.ext
 have j:=f.own;clear f
 refine⟨.inr ⟨hE,a,trivial⟩,?_⟩
 refine Bb rfl (Yk.appendRB _ _ (World.drew c).heap.size (.int .u8 0) El Hz rfl El (l) (id.1) (own_of j (vr k rfl)) (RB.of (RB.ofBlkN a id.2 (by decide)) (vr (.slice (some ⟨b,0,none⟩) 32 32) rfl)) (by rw[id.2];omega) h.size fun i z aa g=> ?_)
 have g:Grew x z k i:=g
 have ai:OB i b:=AP g p (bl a)
 have hE:=AF hE g j y
 have a:=AG a g p
 have h:=AF h g j (Nat.le_refl _)
 clear j
 refine⟨.inr ⟨hE,a,trivial⟩,?_⟩
 refine Bb rfl (Yk.assign (vr i rfl) ?_)
 refine⟨.inl rfl,?_⟩
 refine D8 (tN (u _ _ (Ao (An (fn:=Tryd.f51) _ rfl [i] (i) rfl ⟨rfl,trivial⟩ ?_))))
 exact⟨_,rfl,⟨AC aa (by omega),hE.grown⟩⟩

theorem Cf(w0 w:World)(c:Ext w0 w)(gb:Nat)(hgb:w0.heap.size≤gb)(vb:Value)(l:Bs)(hb:w.heap[gb]? =some (.cells ([vb]).toArray 26 (0,0)))(hr:RB w vb l)(hl:l.length+64≤140737488355328)(z:Int)(o:0≤z)(t:z≤9223372036854775807):
  Calls Tryd.prog 47 #[.int .i64 z,PQ gb 0] w fun e w' =>∃v',e = .returned (.tuple #[])∧w'.heap[gb]? =some (.cells ([v']).toArray 26 (0,0))∧w'.ownsRow w.heap.size 5 1 v' (l++Lib.uvarint z.toNat).length (Lib.byteCells (l++Lib.uvarint z.toNat))∧w.grownBy w' (some gb):=by
 obtain⟨n,rfl⟩:=Int.eq_ofNat_of_zero_le o
 have hgl:=(bl hb)
 have hgr:=World.grownBy.refl w (some gb)
 refine calls_of_wpF (args:= [NI n,PQ gb 0]) Tryd.func47 rfl 9 rfl (Nat.le_of_ble_eq_true rfl) ?_
 intro j hb
 have p:j 0=(NI n:Value):=hb.get 0
 have k:j 1=(PQ gb 0:Value):=hb.get 1
 clear hb
 have hE:=Ext.refl w
 refine wt (oS rfl (Yk.cell1 El rfl k (Ab hb (show _=some (vb:Value)from rfl)) (oM rfl (oS rfl (Yk.callA2 Nw (vr vb rfl) p ((Oa _ vb (l) (hr.keep hE) (by omega) n (by omega)).mono ?_))))))
 rintro e q ⟨a,rfl,b⟩
 refine⟨_,rfl,?_⟩
 have g:=Ext.refl w
 have u:=hE
 have x:=c
 have y:=hE.size
 have aa:=c.size
 have r:OB a gb:=AY b.own (bl hb)
 have hb:=eb b.ext hb
 have hgr:w.grownBy q (some gb):=Ag hgr b.ext.grown (fun _ e=>by cases e)
 have hE:=hE.trans b.ext
 have c:=c.trans b.ext
 have g:=g.trans b.ext
 have f:=b.own;clear b
 refine oM rfl (oS rfl (Yk.extract (vs:= [a,NI 0]) (vr (.tuple #[a,NI 0]) rfl) (show _=some (a:Value)from rfl) (oS rfl (Yk.extract (vs:= [a,NI 0]) (vr (.tuple #[a,NI 0]) rfl) (show _=some (NI 0:Value)from rfl) (oS rfl (Yk.storeC (i:=0) (v:=a) k (vr a rfl) hb (Nat.le_of_ble_eq_true rfl) IX (A6 f).1 (A6 f).2 fun s m h ab=> ?_))))))
 clear hb
 have hgr:w.grownBy s (some gb):=Ag hgr h (fun _ e=> .inl e)
 clear hE
 have c:=Ae c h (Nat.le_trans (Nat.le_refl _) (by omega))
 clear g
 have f:=AU f h r
 have hb:=m;clear m
 have ac:=bl hb
 refine oZ (II (fn:=Tryd.f47) [] rfl [] (.tuple #[]) rfl trivial ?_)
 exact⟨_,rfl,hb,AC f (by omega),hgr⟩

theorem enc2_any(w0 w:World)(c:Ext w0 w)(gb gn:Nat)(hgb:w0.heap.size≤gb)(hgn:w0.heap.size≤gn)(hne:gn≠gb)(vb:Value)(l:Bs)(hb:w.heap[gb]? =some (.cells ([vb]).toArray 26 (0,0)))(hr:RB w vb l)(hn:w.heap[gn]? =some (.cells ([.func (.func 47) #[] #[PQ gb 0]]).toArray 89 (0,0)))(v:Value)(ids:List Bs)(hq:RG 32 Lib.byteCells w0 v ids)(hil:ids.length≤65536)(hl:l.length≤34359738368):
  Calls Tryd.prog 49 #[v,PQ gn 0,PQ gb 0] w fun e w' =>∃v',e = .returned (.tuple #[])∧w'.heap[gb]? =some (.cells ([v']).toArray 26 (0,0))∧w'.ownsRow w.heap.size 5 1 v' (l++CK ids).length (Lib.byteCells (l++CK ids))∧OB v' gb∧w.grownBy w' (some gb):=by
 have hgl:=(bl hb)
 have hgnl:=(bl hn)
 have huv:=Bx (n:=ids.length) (by omega)
 have hsz0:=c.size
 have hgr:=World.grownBy.refl w (some gb)
 refine calls_of_wpF (args:= [v,PQ gn 0,PQ gb 0]) Tryd.func49 rfl 20 rfl (Nat.le_of_ble_eq_true rfl) ?_
 intro af hb
 have j:af 0=(v:Value):=hb.get 0
 have p:af 1=(PQ gn 0:Value):=hb.get 1
 have k:af 2=(PQ gb 0:Value):=hb.get 2
 clear hb
 have hE:=Ext.refl w
 refine sk fun K1 ax=>(wt (oS rfl (Yk.cell1 Nx rfl p (Ab hn (show _=some (.func (.func 47) #[] #[PQ gb 0]:Value)from rfl)) (oM rfl (oS rfl (Yk.lenRG Bw (RG.of (hq.keep c) j) (oS rfl (Yk.clo Ny (caps:= #[PQ gb 0]) (vr (.func (.func 47) #[] #[PQ gb 0]) rfl) #[NI ids.length,PQ gb 0] (by simp only[List.map_toArray,List.map_cons,List.map_nil,List.append_toArray,List.cons_append,List.nil_append];exact congrArg List.toArray (B1 (vr (NI ids.length) rfl) rfl)) ((Cf w0 _ c gb hgb vb (l) hb (hr.keep hE) (by simp only[List.length_append]at *;omega) ((ids.length:Nat):Int) (by omega) (by omega)).mono ?_)))))))))
 rintro e w6 ⟨v2,rfl,aj,r,ah⟩
 refine⟨_,rfl,?_⟩
 have az:OB v2 gb:=AY r (bl hb)
 have a0:OB v2 gn:=AY r (bl hn)
 have r:=AC r hgr.size
 clear hb
 have hgr:w.grownBy w6 (some gb):=Ag hgr ah (fun _ e=> .inl e)
 have hn:=kb ah hn (by omega)
 clear hE
 have c:=Ae c ah (Nat.le_trans (Nat.le_refl _) (by omega))
 have hb:=aj;clear aj
 have bd:=bl hb
 refine oZ (tN (ax _ _ (sk fun be a1=>(wt (oM rfl (oS rfl (Yk.lenRG Bw (RG.of (hq.keep c) j) (oM rfl (Bp [(0,v),(1,PQ gn 0),(2,PQ gb 0),(10,v),(11,NI ids.length),(12,NI 0)] ⟨j,p,k,j,rfl,rfl,trivial⟩ fun bf ⟨j,p,k,s,t,m,_⟩=>(tN (a1 _ _ (AA (Bu (fun(ρ:As) (wz:World)=>∃i:Nat,∃vb1:Value,ρ 0=(v:Value)∧ρ 1=(PQ gn 0:Value)∧ρ 2=(PQ gb 0:Value)∧ρ 10=(v:Value)∧ρ 11=(NI ids.length:Value)∧ρ 12=(NI i:Value)∧w.grownBy wz (some gb)∧wz.heap[gn]? =some (.cells ([.func (.func 47) #[] #[PQ gb 0]]).toArray 89 (0,0))∧Ext w0 wz∧wz.heap[gb]? =some (.cells ([vb1]).toArray 26 (0,0))∧wz.ownsRow w.heap.size 5 1 vb1 (l++Lib.uvarint ids.length++(ids.take i).flatMap fun x=>x:List UInt8).length (Lib.byteCells (l++Lib.uvarint ids.length++(ids.take i).flatMap fun x=>x))∧(i≤ids.length)∧(OB vb1 gb)∧(OB vb1 gn)∧True) (fun ρ _=>ids.length-(intOf (ρ 12)).toNat) ⟨0,v2,j,p,k,s,t,m,hgr,hn,c,hb,Eb r (by simp),Nat.zero_le _,az,a0,trivial⟩ ?_)))))))))))))
 clear hb
 clear r
 clear hgr hn c
 rintro a2 bg ⟨i,vb1,j,p,k,s,t,m,hgr,hn,c,f,g,hi,ai,ak,-⟩
 have q12:=m
 have hgl:=(bl f)
 refine sk fun bh a3=>(wt (oS rfl (Yk.eqI (a:=(i:Nat)) (b:=(ids.length:Nat)) m t (A0 _ _ _ _) (oZ (tN (a3 _ _ (sk fun bi a4=> ?_)))))))
 refine AX ((i)<(ids.length)) (vr (.bool (decide ((i)<(ids.length)))) rfl) (fun al=> ?_) (fun al=> ?_)
 ·have hlt:i<ids.length:=al
  have hel:(ids.getD i []).length=32:=A3 (RG.elem (hq.keep c) [] hlt)
  have hLl:=Gb (RG.lens hq) i (by omega)
  refine Ak (tN (a4 _ _ (sk fun bj a5=>(AA (sk fun bk a6=>(wt ?_))))))
  have ad:(Lib.byteCells (ids.getD (i) ([]:List UInt8))).length=32:=(RG.elem (hq.keep c) ([]:List UInt8) (by omega))
  refine oS rfl (Yk.atRG Bw Cq (by decide) ([]:List UInt8) (RG.of (hq.keep c) s) m (by omega) fun a7 am=>(oS rfl (Yk.loadPR (PR.of am (vr a7 rfl)) NV rfl (by rw[ad];exact Mh) (oS rfl (Yk.alloc (cs:=(Lib.byteCells (List.replicate 32 0)).toArray) Hh fun q an ao ap z bm=> ?_)))))
  have bn:=hgr.size
  have a8:=c.size
  have bo:=Bo (bl hn) ao
  have bp:=Bo (bl f) ao
  have aq:OB vb1 q:=Bc g (by omega)
  have hgr:w.grownBy an (some gb):=Ag hgr z.grown (fun _ e=>by cases e)
  have hn:=eb z hn
  have c:=c.trans z
  have f:=eb z f
  have g:=Stab.own _ _ _ _ _ _ _ _ g z
  have h:=ap;clear ap
  have bq:q<an.heap.size:=by omega
  refine oS rfl (Yk.storeAll (vr (PQ q 0) rfl) (vr (AB (ids.getD (i) ([]:List UInt8))) rfl) h (by exact CL (A3 (ad)) List.length_replicate) (by exact Aw (A3 (ad))) (Av _) fun aa ar ab br=> ?_)
  have hgr:w.grownBy aa (some gb):=Ag hgr ab (fun _ e=> .inr (by cases e;omega))
  have hn:=kb ab hn (by omega)
  have c:=Ae c ab (Nat.le_trans a8 (by omega))
  have f:=kb ab f (by omega)
  have g:=AU g ab aq
  clear h
  have h:=ar;clear ar
  have bs:=bl h
  refine oZ ?_
  clear am
  refine tN (a6 _ _ ?_)
  have u:Ext aa (World.drew aa):=(Below.refl _ _).drew
  have hgr:w.grownBy (World.drew aa) (some gb):=Ag hgr u.grown (fun _ e=>by cases e)
  have hn:=eb u hn
  have c:=c.trans u
  have f:=eb u f
  have g:=Stab.own _ _ _ _ _ _ _ _ g u
  have h:=eb u h
  refine Dj [(1,17, .slice (some ⟨q,0,none⟩) 32 32)] [0,2,3] (fun wz=>wz.heap[gn]? =some (.cells ([.func (.func 47) #[] #[PQ gb 0]]).toArray 89 (0,0))∧Ext w0 wz∧wz.heap[gb]? =some (.cells ([vb1]).toArray 26 (0,0))∧wz.heap[q]? =some (.cells (Lib.byteCells (ids.getD (i) ([]:List UInt8))).toArray 25 (0,0))∧True) (by kernel_rfl) (by kernel_rfl) (by kernel_rfl) ⟨hn,c,f,h,trivial⟩ ⟨fun bt ⟨hn,c,f,h,_⟩=>Yk.sliceArr NV Lt (vr (PQ q 0) rfl) ⟨rfl,rfl⟩,trivial⟩ (Bb rfl (Yk.cell1 El rfl k (Ab f (show _=some (vb1:Value)from rfl)) ?_))
  refine⟨.inr ⟨hn,c,f,h,trivial⟩,?_⟩
  refine Bb rfl (Yk.appendRB _ _ w.heap.size (.int .u8 0) El Hz rfl El (l++Lib.uvarint ids.length++(ids.take i).flatMap fun x=>x) (ids.getD (i) ([]:List UInt8)) (own_of g (vr vb1 rfl)) (RB.of (RB.ofBlkN h (A3 (ad)) (by decide)) (vr (.slice (some ⟨q,0,none⟩) 32 32) rfl)) (by simp only[List.length_append,hel];omega) hgr.size fun y au ac o=> ?_)
  have o:Grew (World.drew aa) au vb1 y:=o
  have av:OB y gb:=AP o ai (bl f)
  have a9:OB y gn:=AP o ak (bl hn)
  have hgr:w.grownBy au (some gb):=Ag hgr o.by_ (fun _ e=> .inr (g.lt _ e).1)
  have hn:=AG hn o ak
  have c:=AF c o g hsz0
  have f:=AG f o ai
  clear g
  have h:=AG h o aq
  refine⟨.inr ⟨hn,c,f,h,trivial⟩,?_⟩
  refine Bb rfl (Yk.storeC (i:=0) (v:=y) k (vr y rfl) f (Nat.le_of_ble_eq_true rfl) IX (A6 ac).1 (A6 ac).2 fun ba aw ae bu=> ?_)
  have hgr:w.grownBy ba (some gb):=Ag hgr ae (fun _ e=> .inl e)
  have hn:=kb ae hn (by omega)
  have c:=Ae c ae (Nat.le_trans (Nat.le_refl _) (by omega))
  clear f
  have ac:=AU ac ae av
  have f:=aw;clear aw
  have bv:=bl f
  refine⟨.inl rfl,?_⟩
  refine D8 (bN (tN (a5 _ _ (wt (oS rfl (Yk.bin (xv:=NI i) (yv:=NI 1) m rfl rfl (Be _ _ _ (by omega)) (oM rfl (Bp [(0,v),(1,PQ gn 0),(2,PQ gb 0),(5,PQ q 0),(10,v),(11,NI ids.length),(12,NI ((i)+(1)))] ⟨j,p,k,rfl,s,t,rfl,trivial⟩ fun bb ⟨j,p,k,T5,s,t,m,_⟩=>(tN (And.intro ⟨i+1,y,j,p,k,s,t,m,hgr,hn,c,f,Eb ac (by rw[IW hlt];simp only[List.append_assoc]),by omega,av,a9,trivial⟩ ?_))))))))))
  show ids.length-(intOf (bb 12)).toNat<ids.length-(intOf (a2 12)).toNat
  rw[m,q12]
  simp only[intOf,Int.toNat_natCast];omega
 refine Bm (Ax (Ax (AS (II (fn:=Tryd.f49) [] rfl [] (.tuple #[]) rfl trivial ?_))))
 refine⟨_,rfl,f,?_,ai,hgr⟩
 have hie:i=ids.length:=by omega
 rw[hie,List.take_length]at g
 exact Eb g (by unfold CK;simp only[List.append_assoc])
end Go.Proofs.YtmonlobfofkbdaaDoor
