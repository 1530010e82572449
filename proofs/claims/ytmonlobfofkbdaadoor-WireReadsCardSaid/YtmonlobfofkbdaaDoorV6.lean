/- Part 6 of what stands behind these statements: laws and walks of the functions that are reached. Conditions: those that each theorem names. -/
import Derived.Test.YtmonlobfofkbdaaDoorV5
set_option linter.unusedVariables false
set_option linter.unusedSimpArgs false
namespace Go.Proofs.YtmonlobfofkbdaaDoor
open Go.RowKit
section
variable {P : Program} {K : Value → World → Prop} {ρ : As} {w : World} {d : Option Tmp} {ty : TypeId} {pos : String} {af : Array Edge} {gd : Option (Nat × Bool)} {t ty2 : TypeId}
theorem Yk.assertOk{x:Operand}{u:TypeId}{v:Value}{fs}(hu:P.underlying u=some (.struct fs))(hx:Al ρ x = .iface u v)(hk:K (.tuple #[v, .bool true]) w):Yk P K ((execOp (Al ρ) ⟨d, .typeAssert x t u true,ty,pos,af,gd⟩).run P w):=by
  refine Yk.value (v:= .tuple #[v, .bool true]) (w' :=w) ?_ hk
  unfold execOp
  simp[Instr.typeAssert,hx,run_underlying hu,Result.andThen]
theorem Yk.neqNilN{x:Operand}(he:(Op.equal t .nilIface .nilIface).run P w = .ok true w)(hx:Al ρ x = .nilIface)(hk:K (.bool false) w):Yk P K ((execOp (Al ρ) ⟨d, .binOp .neq t x (.const .nilIface) ty2,ty,pos,af,gd⟩).run P w):=by
  have hy:Al ρ (.const .nilIface) = .nilIface:=rfl
  refine Yk.value (v:= .bool false) (w' :=w) ?_ hk
  unfold execOp
  simp only[hx,hy]
  simp[eqGuard,Go.binOp,he,Result.andThen]
theorem Yk.neqNilS{x:Operand}{u:TypeId}{v:Value}(he:(Op.equal t (.iface u v) .nilIface).run P w = .ok false w)(hx:Al ρ x = .iface u v)(hk:K (.bool true) w):Yk P K ((execOp (Al ρ) ⟨d, .binOp .neq t x (.const .nilIface) ty2,ty,pos,af,gd⟩).run P w):=by
  have hy:Al ρ (.const .nilIface) = .nilIface:=rfl
  refine Yk.value (v:= .bool true) (w' :=w) ?_ hk
  unfold execOp
  simp only[hx,hy]
  simp[eqGuard,Go.binOp,he,Result.andThen]
theorem Og{x:Operand}{fv:Fn}{first cap:Array Value}(hx:Al ρ x = .func fv first cap):(execOp (Al ρ) ⟨none, .defer ⟨.value x,#[],#[]⟩,ty,pos,af,none⟩).run P w = .ok (.defer ⟨.fn fv cap,first⟩) w:=by
  unfold execOp
  simp[resolve,hx,Deferred.ofValue]
theorem ResF.cell1{p:Tmp}{ty:TypeId}{g:Nat}{t:TypeId}{v:Value}{fr:Nat × Nat}{d:TypeDesc}(hp:ρ p = .pointer (some ⟨g,0,none⟩))(hg:w.heap[g]? =some (.cells ([v]).toArray t fr)) 
    (hu:P.underlying ty=some d) (hd:(match d with | .struct _ | .array _ _=>false | _=>true)=true):ResF P ρ w (.cell p ty) v:=by
  refine⟨_,hp,?_⟩
  have hc:w.cell? ⟨g,0,none⟩=some v:=Ab hg rfl
  have hagg:(isAgg ty).run P w = .ok false w:=by
    unfold isAgg
    cases d <;> first | (simp at hd;done) | simp[run_underlying hu,Result.andThen]
  simp[loadVar,hagg,hc]
theorem Id{fn:Func}{tmps:Array Value}{R:Ending→World→Prop}(rs:List ResultVar)(hrs:fn.results=rs.toArray)(vs:List Value)(v:Value)(hv:EZ vs=v)(ht:∀t,tmps.getD t undef=ρ t)(h:Ew P ρ w rs vs)(hR:R (.returned v) w):Leaves P fn tmps R [] .returning w:=
  ⟨_,Ea hrs ht h,by rw[hv];exact hR⟩
end
open Go.RowKit
set_option maxRecDepth 100000
theorem Oh(w:World):(Op.equal 20 .nilIface .nilIface).run Tryd.prog w = .ok true w:=by kernel_rfl
theorem Oi(u:TypeId)(v:Value)(w:World):(Op.equal 20 (.iface u v) .nilIface).run Tryd.prog w = .ok false w:=by kernel_rfl
theorem LT{d:Option Tmp}{ty:TypeId}{pos:String}{af:Array Edge}{gd:Option (Nat × Bool)}(σ:Operand→Value)(w:World):(execOp σ ⟨d, .alloc 107,ty,pos,af,gd⟩).run Tryd.prog w = .ok (.value (PQ w.heap.size 0)) (w.alloc (.cells (([]:List Value)).toArray 107)):=by kernel_rfl
theorem Kd(b2 b3:Nat)(w:World):CallsD Tryd.prog 66 #[PQ b2 0,PQ b3 0] (.returning) w fun e u' w' =>u' =(B7 (.returning)).2∧(e = .returned (.tuple #[])∧Ext w w'):=by
 have hE:=Ext.refl w
 refine FJ (u:= .returning) (args:= [PQ b2 0,PQ b3 0]) Tryd.func66 rfl 17 rfl (Nat.le_of_ble_eq_true rfl) rfl rfl (R:=fun e w' =>e = .returned (.tuple #[])∧Ext w w') ?_
 intro ρz hb
 have b:(BD (BD ρz (some 5) (B7 (.returning)).1) (some 2) (B7 (.returning)).1) 0=(PQ b2 0:Value):=hb.get 0
 have c:(BD (BD ρz (some 5) (B7 (.returning)).1) (some 2) (B7 (.returning)).1) 1=(PQ b3 0:Value):=hb.get 1
 have a:(BD (BD ρz (some 5) (B7 (.returning)).1) (some 2) (B7 (.returning)).1) 2=(.nilIface:Value):=rfl
 generalize BD (BD ρz (some 5) (B7 (.returning)).1) (some 2) (B7 (.returning)).1=g at b c a ⊢
 clear hb
 refine sk fun h f=>(wt (oM rfl (oS rfl (Yk.neqNilN (Oh _) a (oZ (tN (f _ _ (Am (vr (.bool (false)) rfl) (Ak (C3 (fn:=Tryd.f66) [] rfl [] (.tuple #[]) rfl trivial ?_))))))))))
 exact⟨rfl,hE⟩

theorem Ke(w0:World)(b2 b3:Nat)(X2:Ah)(r:Value)(w:World)(h0:Ext w0 w)(l2:w0.heap.size≤b2)(l3:w0.heap.size≤b3)(hne:b2≠b3)(h2:w.heap[b2]? =some (.cells (msgC X2).toArray 29 (0,0)))(h3:w.heap[b3]? =some (.cells ([r]).toArray 27 (0,0))):CallsD Tryd.prog 66 #[PQ b2 0,PQ b3 0] (.panicking [BS]) w fun e u' w' =>u' =(B7 (.panicking [BS])).2∧(e = .returned (.tuple #[])∧w'.heap[b2]? =some (.cells (msgC ((⟨0,0,[],[],[],0,0,zid,[],[],zid,zid,false,0⟩,⟨.slice none 0 0, .slice none 0 0, .slice none 0 0, .slice none 0 0⟩):Ah)).toArray 29 (0,0))∧w'.heap[b3]? =some (.cells ([NI 6]).toArray 27 (0,0))∧Ext w0 w'):=by
 have hl2_:=(bl h2)
 have hl3_:=(bl h3)
 refine FJ (u:= .panicking [BS]) (args:= [PQ b2 0,PQ b3 0]) Tryd.func66 rfl 17 rfl (Nat.le_of_ble_eq_true rfl) rfl rfl (R:=fun e w' =>e = .returned (.tuple #[])∧w'.heap[b2]? =some (.cells (msgC ((⟨0,0,[],[],[],0,0,zid,[],[],zid,zid,false,0⟩,⟨.slice none 0 0, .slice none 0 0, .slice none 0 0, .slice none 0 0⟩):Ah)).toArray 29 (0,0))∧w'.heap[b3]? =some (.cells ([NI 6]).toArray 27 (0,0))∧Ext w0 w') ?_
 intro ρz hb
 have g:(BD (BD ρz (some 5) (B7 (.panicking [BS])).1) (some 2) (B7 (.panicking [BS])).1) 0=(PQ b2 0:Value):=hb.get 0
 have h:(BD (BD ρz (some 5) (B7 (.panicking [BS])).1) (some 2) (B7 (.panicking [BS])).1) 1=(PQ b3 0:Value):=hb.get 1
 have b:(BD (BD ρz (some 5) (B7 (.panicking [BS])).1) (some 2) (B7 (.panicking [BS])).1) 2=((.iface 107 (.agg #[])):Value):=rfl
 generalize BD (BD ρz (some 5) (B7 (.panicking [BS])).1) (some 2) (B7 (.panicking [BS])).1=ad at g h b ⊢
 clear hb
 refine sk fun K1 s=>(wt (oM rfl (oS rfl (Yk.neqNilS (Oi _ _ _) b (oZ (tN (s _ _ (At (vr (.bool (true)) rfl) (sk fun K2 t=>(sk fun K3 y=>(wt (oM rfl (oS rfl (Yk.assertOk (MC).choose_spec b (oM rfl (oS rfl (Yk.extract (vs:= [.agg (([]:List Value)).toArray, .bool (true)]) (vr (.tuple #[.agg (([]:List Value)).toArray, .bool (true)]) rfl) (show _=some (.agg (([]:List Value)).toArray:Value)from rfl) (oS rfl (Yk.extract (vs:= [.agg (([]:List Value)).toArray, .bool (true)]) (vr (.tuple #[.agg (([]:List Value)).toArray, .bool (true)]) rfl) (show _=some (.bool (true):Value)from rfl) (oS rfl (Yk.alloc (cs:=(([]:List Value)).toArray) LT fun j z k l c ah=> ?_)))))))))))))))))))))
 have aa:=h0.size
 have ai:=Bo (bl h2) k
 have aj:=Bo (bl h3) k
 have h0:=h0.trans c
 have h2:=eb c h2
 have h3:=eb c h3
 have a:=l;clear l
 have ak:j<z.heap.size:=by omega
 refine oS rfl (Yk.storeAll (vr (PQ j 0) rfl) (vr (.agg (([]:List Value)).toArray) rfl) a (rfl) ((show(Tryd.prog.info? 107).map (·.size)=some 0 from by kernel_rfl)) ((by intro u hu;cases hu)) fun al m f am=> ?_)
 have h0:=Ae h0 f (Nat.le_trans aa (by omega))
 have h2:=kb f h2 (by omega)
 have h3:=kb f h3 (by omega)
 clear a
 have a:=m;clear m
 have an:=bl a
 refine oA rfl (oZ (tN (y _ _ (sk fun ao ab=>(wt (oM rfl (oS rfl (Yk.notB (vr (.bool (true)) rfl) (oZ (tN (ab _ _ (Am (vr (.bool (false)) rfl) (Ak (tN (t _ _ (wt (oS rfl (Yk.run (v:= .agg (msgC ((⟨0,0,[],[],[],0,0,zid,[],[],zid,zid,false,0⟩,⟨.slice none 0 0, .slice none 0 0, .slice none 0 0, .slice none 0 0⟩):Ah)).toArray) (by kernel_rfl) (oS rfl (Yk.storeAll g (vr (.agg (msgC ((⟨0,0,[],[],[],0,0,zid,[],[],zid,zid,false,0⟩,⟨.slice none 0 0, .slice none 0 0, .slice none 0 0, .slice none 0 0⟩):Ah)).toArray) rfl) h2 (by simp only[List.size_toArray,msg_len]) (Au (msg_len _) Mr) (BK (x:=((⟨0,0,[],[],[],0,0,zid,[],[],zid,zid,false,0⟩,⟨.slice none 0 0, .slice none 0 0, .slice none 0 0, .slice none 0 0⟩):Ah)) rfl rfl rfl rfl) fun ac n o ap=> ?_))))))))))))))))))))
 have h0:=Ae h0 o (Nat.le_trans (Nat.le_refl _) (by omega))
 clear h2
 have h3:=kb o h3 (by omega)
 have h2:ac.heap[b2]? =some (.cells (msgC ((⟨0,0,[],[],[],0,0,zid,[],[],zid,zid,false,0⟩,⟨.slice none 0 0, .slice none 0 0, .slice none 0 0, .slice none 0 0⟩):Ah)).toArray 29 (0,0)):=n;clear n
 have aq:=bl h2
 refine oS rfl (Yk.storeC (i:=0) (v:=NI 6) h (vr (NI 6) rfl) h3 (Nat.le_of_ble_eq_true rfl) LR rfl rfl fun ar p q au=> ?_)
 have h0:=Ae h0 q (Nat.le_trans (Nat.le_refl _) (by omega))
 clear h3
 have h2:=kb q h2 (by omega)
 have h3:=p;clear p
 have av:=bl h3
 refine oZ (C3 (fn:=Tryd.f66) [] rfl [] (.tuple #[]) rfl trivial ?_)
 exact⟨rfl,h2,h3,h0⟩
open Go.RowKit
set_option maxRecDepth 100000
theorem RG.kept{α:Type}{k:Nat}{enc:α→List Value}{w w' :World}{v:Value}{l:List α}(h:RG k enc w v l){row:Option Nat}(hg:w.grownBy w' row)(hv:v.ownBlock=none∨v.ownBlock≠row):RG k enc w' v l:=by
 refine⟨h.1,?_⟩
 obtain⟨h1,ao,cap,rfl,h2,h3,h4,h5⟩:=h.2
 refine⟨h1,ao,cap,rfl,h2,h3,h4,fun a ha j u hu=> ?_⟩
 have hc:=h5 a ha j u hu
 subst ha
 have hlt:=World.block_lt_of_cell? w _ hc
 have hbl:(a.add j).block=a.block:=by unfold Addr.add;split <;> rfl
 have hne:(some a.block)≠row:=by
  rcases hv with hv | hv
  ·cases hv
  ·exact hv
 rw[hbl]at hlt
 rw[World.cell?_of_block (w:=w) (by rw[hbl];exact hg.block a.block hlt hne)]
 exact hc
theorem MsgAt.set{w w' :World}{X:Ah}{n g:Nat}(h:MsgAt w X)(hn:MM n X)(hg:w.grownBy w' (some g))(hl:g<n):MsgAt w' X:=
 ⟨h.refs.kept hg (.inr fun e=>by have:=hn.refs g e;omega),h.wants.kept hg (.inr fun e=>by have:=hn.wants g e;omega),h.haves.kept hg (.inr fun e=>by have:=hn.haves g e;omega),h.bytes.kept hg (.inr fun e=>by have:=hn.bytes g e;omega)⟩
def DecRes(w:World)(X:Ah)(c:Nat):Option Msg→Prop
 | some m=>c=0∧X.1=m∧MsgAt w X
 | none=>c=6∧X=((⟨0,0,[],[],[],0,0,zid,[],[],zid,zid,false,0⟩,⟨.slice none 0 0, .slice none 0 0, .slice none 0 0, .slice none 0 0⟩):Ah)
theorem MR{d:Option Tmp}{ty:TypeId}{pos:String}{af:Array Edge}{gd:Option (Nat × Bool)}(σ:Operand→Value)(w:World):(execOp σ ⟨d, .alloc 27,ty,pos,af,gd⟩).run Tryd.prog w = .ok (.value (PQ w.heap.size 0)) (w.alloc (.cells ([NI 0]).toArray 27)):=by kernel_rfl
theorem Jt{z0:Value}(h0:∃ao n c,z0 = .slice ao n c)(w:World):(Instr.build 111 #[(0,z0)]).run Tryd.prog w = .ok (.agg #[z0, .int .i64 0]) w:=by obtain⟨_,_,_,rfl⟩:=h0;kernel_rfl
theorem Kf{z0:Value}(h0:∃ao n c,z0 = .slice ao n c)(w:World):(Instr.build 111 #[(0,z0)]).run Tryd.prog w = .ok (.agg (z0 :: (.int .i64 (0) :: ([]))).toArray) w:=by
 exact Jt h0 w
theorem MS:AN Tryd.prog 67:=fun _ _=>by kernel_rfl
set_option maxHeartbeats 1600000
theorem LU(w:World)(v:Value)(b:Bs)(hr:RB w v b)(hl:b.length≤4611686018427387904):
  Calls Tryd.prog 22 #[v] w fun e w' =>∃x,e = .returned x∧∃X c,x = .tuple #[.agg (msgC X).toArray,NI c]∧DecRes w' X c (Cv b)∧Ext w w' :=by
 refine Kc (args:= [v]) Tryd.func22 rfl 9 rfl (Nat.le_of_ble_eq_true rfl) ?_
 intro aj hb
 have m:aj 0=(v:Value):=hb.get 0
 clear hb
 have hE:=Ext.refl w
 refine MP _ KN fun K1 ak=>(wt (oS rfl (Yk.alloc (cs:=(msgC ((⟨0,0,[],[],[],0,0,zid,[],[],zid,zid,false,0⟩,⟨.slice none 0 0, .slice none 0 0, .slice none 0 0, .slice none 0 0⟩):Ah)).toArray) MN fun a o aw y al ax=> ?_)))
 have hE:=hE.trans al
 have n:=y;clear y
 have ay:a<o.heap.size:=by omega
 refine oS rfl (Yk.alloc (cs:=([NI 0]).toArray) MR fun g p am z q az=> ?_)
 have r:=Ext.refl o
 have an:=hE.size
 have a0:=Bo (bl n) am
 have hE:=hE.trans q
 have n:=eb q n
 have r:=r.trans q
 have aa:=z;clear z
 have a1:g<p.heap.size:=by omega
 refine Bp [(0,v),(2,PQ a 0),(3,PQ g 0)] ⟨m,rfl,rfl,trivial⟩ fun a2 ⟨m,k,l,_⟩=> ?_
 have hrA:RB p v b:=(hr.keep hE)
 have ab:=n
 have ac:=aa
 have hEA:=hE
 have s:=Ext.refl p
 have a3:=hE.size
 have a4:=r.size
 refine tN (ak _ _ (GB (D9 rfl (Yk.mkFunc (vs:= #[PQ a 0,PQ g 0]) (by simp only[List.map_toArray,List.map_cons,List.map_nil];exact congrArg List.toArray (B1 k l)) (LS (vr (.func (.func 66) #[] #[PQ a 0,PQ g 0]) rfl) (Og (vr (.func (.func 66) #[] #[PQ a 0,PQ g 0]) rfl)) (Kb (fun ρ=>ρ 0=(v:Value)∧ρ 2=(PQ a 0:Value)∧ρ 3=(PQ g 0:Value)∧True) ⟨m,k,l,trivial⟩ fun a5 ⟨m,k,l,_⟩=>(GB (D9 rfl (Yk.move m (D9 rfl (Yk.build1 (vr v rfl) (fun w=>Kf (RB.slice (hr.keep hE)) w) (D9 rfl (Yk.box (cs:=(A4 ((⟨b,0⟩,⟨v⟩):DY):List Value).toArray) (vr (.agg (A4 ((⟨b,0⟩,⟨v⟩):DY)).toArray) rfl) fun ad ao ae af ap a6=> ?_)))))))))))))
 have a7:=Bo (bl n) ae
 have a8:=Bo (bl aa) ae
 have s:=s.trans ap
 have aq:=af;clear af
 have a9:ad<ao.heap.size:=by omega
 refine Ic rfl (Yp.callA1 MS (vr (PQ ad 0) rfl) ?_)
 refine Ar (KM s aq hrA (by omega) hl) ?_ ?_
 rotate_left
 ·
  rintro ch ba ⟨hP,rfl,hx⟩
  intro a_ ha_
  show Leaves _ _ a_.tmps _ a_.defers (.panicking _) _
  rw[ha_.defers]
  refine leaves_cons (f:=66) (args:= #[PQ a 0,PQ g 0]) (by simp) (by simp[go_sem]) ((Ke w a g _ _ _ (hEA.trans hx) (by omega) (by omega) (by omega) (eb hx ab) (eb hx ac)).mono ?_)
  rintro e u' o ⟨rfl,rfl,h,j,ar⟩
  exact Id (ρ:=_) _ rfl [.agg (msgC ((⟨0,0,[],[],[],0,0,zid,[],[],zid,zid,false,0⟩,⟨.slice none 0 0, .slice none 0 0, .slice none 0 0, .slice none 0 0⟩):Ah)).toArray,NI 6] (.tuple #[.agg (msgC ((⟨0,0,[],[],[],0,0,zid,[],[],zid,zid,false,0⟩,⟨.slice none 0 0, .slice none 0 0, .slice none 0 0, .slice none 0 0⟩):Ah)).toArray,NI 6]) rfl ha_.get ⟨ResF.row (k) h (Nr).choose_spec rfl (Au (msg_len _) Mr),ResF.cell1 (l) j J1 rfl,trivial⟩ ⟨_,rfl,_,_,rfl,by rw[hP];exact⟨rfl,rfl⟩,ar⟩
 rintro v_ bb ⟨X,hP,rfl,hX,hXn,hx⟩
 have hE:=hEA.trans hx
 have h:=eb hx ab
 have j:=eb hx ac
 have bc:=hx.size
 have hmr:=hX.refs
 have hmw:=hX.wants
 have hmh:=hX.haves
 have hmb:=hX.bytes
 have bd:=(bl h)
 have be:=(bl j)
 refine D9 rfl (Yk.storeAll k (vr (.agg (msgC X).toArray) rfl) h (by simp only[List.size_toArray,msg_len]) (Au (msg_len _) Mr) (BK (x:=X) (RG.one hmr).2 (RG.one hmw).2 (RG.one hmh).2 (RB.one hmb).2) fun ag ah t bf=> ?_)
 have hE:=Ae hE t (Nat.le_trans (Nat.le_refl _) (by omega))
 clear h
 have j:=kb t j (by omega)
 have hX:MsgAt ag X:=MsgAt.set hX hXn t (by omega)
 clear hmr
 clear hmw
 clear hmh
 clear hmb
 have h:ag.heap[a]? =some (.cells (msgC X).toArray 29 (0,0)):=ah;clear ah
 have bg:=bl h
 refine D9 rfl (Yk.storeC (i:=0) (v:=NI 0) l (vr (NI 0) rfl) j (Nat.le_of_ble_eq_true rfl) LR rfl rfl fun au ai u bh=> ?_)
 have hE:=Ae hE u (Nat.le_trans an (by omega))
 clear j
 have hX:MsgAt au X:=MsgAt.set hX hXn u (by omega)
 have h:=kb u h (by omega)
 have j:=ai;clear ai
 have bi:=bl j
 refine Kb (fun ρ=>ρ 0=(v:Value)∧ρ 2=(PQ a 0:Value)∧ρ 3=(PQ g 0:Value)∧True) ⟨m,k,l,trivial⟩ fun bj ⟨m,k,l,_⟩=>(Of fun a_ ha_=> ?_)
 show Leaves _ _ a_.tmps _ a_.defers .returning _
 rw[ha_.defers]
 refine leaves_cons (f:=66) (args:= #[PQ a 0,PQ g 0]) (by simp) (by simp[go_sem]) ((Kd a g _).mono ?_)
 rintro e u' o ⟨rfl,rfl,hxi⟩
 exact Id (ρ:=_) _ rfl [.agg (msgC X).toArray,NI 0] (.tuple #[.agg (msgC X).toArray,NI 0]) rfl ha_.get ⟨ResF.row (k) (eb hxi h) (Nr).choose_spec rfl (Au (msg_len _) Mr),ResF.cell1 (l) (eb hxi j) J1 rfl,trivial⟩ ⟨_,rfl,_,_,rfl,by rw[hP];exact⟨rfl,rfl,(hX).keep hxi⟩,hE.trans hxi⟩
open Go.RowKit
theorem CY{α:Type}{b u r:List α}{i:Nat}(h:b.drop i=u++r):b.drop (i+u.length)=r:=by
  rw[←List.drop_drop,h,List.drop_left]
theorem LV{α:Type}{b u r:List α}{i:Nat}(h:b.drop i=u++r)(hu:0<u.length):i+u.length+r.length=b.length:=by
  have h1:=congrArg List.length h
  rw[List.length_drop,List.length_append]at h1
  omega
theorem Ix{b r:Bs}{c:UInt8}{i:Nat}(h:b.drop i=c :: r):Cx b i=some (c,i+1):=by
  have h0:=LV (u:= [c]) h (by simp)
  have h1:b[i]? =some c:=by have:=congrArg (fun l:Bs=>l[0]?) h;simpa using this
  unfold Cx
  rw[if_pos (by simp only[List.length_singleton]at h0;omega),List.getD_eq_getElem?_getD,h1]
  rfl
theorem E6{b r:Bs}{n i:Nat}(h:b.drop i=Lib.uvarint n++r)(hn:n<9223372036854775808):Bk b i=some (n,i+(Lib.uvarint n).length):=by
  have h4:(128:Nat)^(8+1)=9223372036854775808:=by decide
  unfold Bk
  rw[h,En r 8 n 0 (by omega) (by omega) (by omega)]
  rfl
theorem GR{b r:Bs}{x:CI}{i:Nat}(h:b.drop i=x.1++r):CZ b i=some (x,i+x.1.length):=by
  have hx:=x.2
  have h0:=LV h (by omega)
  unfold CZ
  rw[dif_pos (by omega),hx]
  congr 2
  refine Subtype.ext ?_
  show(b.drop i).take 32=x.1
  rw[h]
  exact List.take_left' hx
theorem Kg{b r s:Bs}{most i:Nat}(h:b.drop i=Bq s++r)(hs:s.length≤most)(hm:most<9223372036854775808):BU b i most=some (s,i+(Bq s).length):=by
  have h4:(128:Nat)^(8+1)=9223372036854775808:=by decide
  have h' :b.drop i=Lib.uvarint s.length++(s++r):=by rw[h];unfold Bq;rw[List.append_assoc]
  have h0:=LV h' (Lib.uvarint_pos _)
  have h2:=CY h'
  unfold BU
  rw[h',En (s++r) 8 s.length 0 (by omega) (by omega) (by omega)]
  simp only
  rw[List.length_append]at h0
  rw[if_neg (by omega),if_neg (by omega),h2,List.take_left]
  unfold Bq
  rw[List.length_append,Nat.add_assoc]
theorem OL{b r:Bs}{u:AJ}{i:Nat}(h:b.drop i=B4 u++r)(hu:u.name.length≤32)(ho:u.old=zid):updP b i=some (u,i+(B4 u).length):=by
  have a:b.drop i=u.kind :: (Bq u.name++(u.new.1++r)):=by rw[h];unfold B4;simp
  have c:b.drop (i+1)=Bq u.name++(u.new.1++r):=CY (u:= [u.kind]) a
  have e:=CY c
  unfold updP
  rw[Ix a,Option.bind_some,Kg c hu (by omega),Option.bind_some,GR e,Option.bind_some]
  simp only[Option.some.injEq,Prod.mk.injEq]
  refine⟨?_,by unfold B4;simp only[List.length_append,List.length_singleton];omega⟩
  rw[←ho]
theorem Kh{σ:Type}{f:σ→Option σ}:∀(n:Nat) (s:σ),Dw f (n+1) s=(f s).bind (Dw f n)
  | 0,s=>by
    show f s=_
    cases f s <;> rfl
  | n+1,s=>by
    show(Dw f (n+1) s).bind f=_
    rw[Kh n s]
    cases f s with
    | none=>rfl
    | some t=>rfl
theorem N2{α:Type}(f:α→Bs){b:Bs}(st:List α × Nat→Option (List α × Nat)):∀(l:List α) (a:List α) (r:Bs) (i:Nat),b.drop i=l.flatMap f++r →
    (∀x∈l,∀(a:List α) (i:Nat) (r:Bs),b.drop i=f x++r→st (a,i)=some (a++ [x],i+(f x).length))→Dw st l.length (a,i)=some (a++l,i+(l.flatMap f).length)
  | [],a,r,i,_,_=>by simp[Dw]
  | x :: l,a,r,i,h,hst=>by
    rw[List.flatMap_cons,List.append_assoc]at h
    rw[List.length_cons,Kh,hst x (by simp) a i _ h,Option.bind_some,N2 f st l (a++ [x]) r _ (CY h) (fun y hy=>hst y (by simp[hy]))]
    simp[Nat.add_assoc]
theorem Lf{α:Type}(f:α→Bs){b:Bs}{most:Nat}(st:List α × Nat→Option (List α × Nat)){l:List α}{r:Bs}{i:Nat}(h:b.drop i=Lib.uvarint l.length++(l.flatMap f++r))(hl:l.length≤most)(hm:most<9223372036854775808) 
    (hst:∀x∈l,∀(a:List α) (i:Nat) (r:Bs),b.drop i=f x++r→st (a,i)=some (a++ [x],i+(f x).length)):BO b i most st []=some (l,i+(Lib.uvarint l.length).length+(l.flatMap f).length):=by
  rw[Dl (E6 h (by omega)) hl,N2 f st l [] r _ (CY h) hst,List.nil_append]
theorem Oj{b r:Bs}{l:List AJ}{i:Nat}(h:b.drop i=(Lib.uvarint l.length++l.flatMap B4)++r)(hl:l.length≤128)(hu:∀u∈l,u.name.length≤32∧u.old=zid):BO b i 128 (addUpd b) []=some (l,i+(Lib.uvarint l.length++l.flatMap B4).length):=by
  rw[List.append_assoc]at h
  rw[Lf B4 (addUpd b) h hl (by omega) (fun x hx a i r hr=>by unfold addUpd;rw[OL hr (hu x hx).1 (hu x hx).2];rfl),List.length_append,Nat.add_assoc]
theorem MT{b r:Bs}{l:List Bs}{i:Nat}(h:b.drop i=CK l++r)(hl:l.length≤65536)(hu:∀x∈l,x.length=32):BO b i 65536 (addId b) []=some (l,i+(CK l).length):=by
  have h' :b.drop i=Lib.uvarint l.length++(l.flatMap (fun x=>x)++r):=by rw[h];unfold CK;rw[List.append_assoc]
  rw[Lf (fun x=>x) (addId b) h' hl (by omega) (fun x hx a i r hr=>by
    unfold addId
    rw[GR (x:=⟨x,hu x hx⟩) hr]
    rfl)]
  unfold CK
  rw[List.length_append,Nat.add_assoc]
theorem E7{x:CI}(h:zeroB x=true):x=zid:=Subtype.ext (of_decide_eq_true h)
structure OM (m : Msg) (p : Ai) : Prop where
  refs:p.refs=false→m.refs= []
  ids:p.ids=false→m.wants= []∧m.haves= []
  size:p.size=false→m.size=0
  at_:p.at_=false→m.at_=0
  id:p.id=false→m.id=zid
  bytes:p.bytes=false→m.bytes= []
  push:p.push=false→m.name= []∧m.old=zid∧m.new=zid∧m.force=false
  code:p.code=false→m.code=0
theorem GC{m:Msg}{p:Ai}(h:CG m p=true):OM m p:=by
  unfold CG at h
  simp only[Bool.and_eq_true,Bool.or_eq_true,decide_eq_true_eq,Bool.not_eq_true']at h
  obtain⟨⟨⟨⟨⟨⟨⟨h1,h2⟩,h3⟩,h4⟩,h5⟩,h6⟩,h7⟩,h8⟩:=h
  refine⟨fun e=> ?_,fun e=> ?_,fun e=> ?_,fun e=> ?_,fun e=> ?_,fun e=> ?_,fun e=> ?_,fun e=> ?_⟩
  · rw[e]at h1;exact List.eq_nil_of_length_eq_zero (h1.resolve_left (by simp))
  · rw[e]at h2;have h:=h2.resolve_left (by simp);exact⟨List.eq_nil_of_length_eq_zero h.1,List.eq_nil_of_length_eq_zero h.2⟩
  · rw[e]at h3;exact h3.resolve_left (by simp)
  · rw[e]at h4;exact h4.resolve_left (by simp)
  · rw[e]at h5;exact E7 (h5.resolve_left (by simp))
  · rw[e]at h6;exact List.eq_nil_of_length_eq_zero (h6.resolve_left (by simp))
  · rw[e]at h7;have h:=h7.resolve_left (by simp);exact⟨h.1.1.1,E7 h.1.1.2,E7 h.1.2,h.2⟩
  · rw[e]at h8;exact h8.resolve_left (by simp)
theorem EG{m:Msg}{p:Ai}(h:C4 m p=true):CG m p=true∧BG m.refs=true:=by
  unfold C4 at h
  simp only[Bool.and_eq_true,Bool.not_eq_true',Bool.or_eq_false_iff,Bool.not_eq_false']at h
  exact⟨h.1.1.1.1.2,h.1.1.1.2⟩
theorem I1(f:Bool):(Ej f).toNat≤1∧decide ((Ej f).toNat=1)=f:=by cases f <;> exact⟨by decide,by decide⟩
abbrev msg0(k:UInt8)(s:Int):Msg:=⟨k,s,[],[],[],0,0,zid,[],[],zid,zid,false,0⟩
def DV(m:Msg):Prop:=(∀x∈m.wants,x.length=32)∧∀x∈m.haves,x.length=32
theorem MU{l:List AJ}(h:BG l=true):∀u∈l,u.name.length≤32∧u.old=zid:=by
  classical
  intro u hu
  refine⟨(listB_facts h).2 u hu,?_⟩
  unfold BG at h
  have h1:=of_decide_eq_true h
  obtain⟨i,hi,rfl⟩:=List.getElem_of_mem hu
  have h2:=(h1.1 i hi).1
  rw[List.getD_eq_getElem?_getD,List.getElem?_eq_getElem hi]at h2
  unfold EF at h2
  simp only[Option.getD_some,Bool.or_eq_false_iff,Bool.not_eq_false']at h2
  exact E7 h2.1.2
theorem MV{m:Msg}(hR:rightB m=true)(hI:DV m){b r:Bs}{i:Nat}(hb:b.drop i=Ba m++r):Ck b (msg0 m.kind m.session) i=some (m,i+(Ba m).length):=by
  obtain⟨p,hK,hP⟩:=DT hR
  have hF:=Dg hP
  obtain⟨hA,hL⟩:=EG hP
  have hU:=MU hL
  have hB:=GC hA
  obtain⟨u,ac⟩:=hF.size
  obtain⟨ha0,ha1⟩:=hF.at_
  obtain⟨hd0,hd1⟩:=hF.code
  obtain⟨aa,l⟩:=hF.refs
  have hw1:=hF.wants
  have hh1:=hF.haves
  have g:=hF.bytes
  have j:=hF.name
  obtain⟨hI1,hI2⟩:=hI
  clear hF hA hP hL hR
  rcases CX hK with ⟨hk,rfl⟩ | ⟨hk,rfl⟩ | ⟨hk,rfl⟩ | ⟨hk,rfl⟩ | ⟨hk,rfl⟩ | ⟨hk,rfl⟩ | ⟨hk,rfl⟩ | ⟨hk,rfl⟩ <;> clear hK
  · have ht:Ba m= []:=by unfold Ba;rw[hk];simp
    rw[ht,Mu (m:=msg0 m.kind m.session) hk]
    have h1:=hB.refs rfl
    have h2:=hB.ids rfl
    have h3:=hB.size rfl
    have h4:=hB.at_ rfl
    have h5:=hB.id rfl
    have h6:=hB.bytes rfl
    have h7:=hB.push rfl
    have h8:=hB.code rfl
    clear hB hU g j hI1 hI2 l
    obtain⟨k,s,r_,w,h,z,a,d,c,n,o,t,f,e⟩:=m
    simp only at h1 h2 h3 h4 h5 h6 h7 h8
    obtain⟨h2a,h2b⟩:=h2
    obtain⟨h7a,h7b,h7c,h7d⟩:=h7
    subst h1 h2a h2b h3 h4 h5 h6 h7a h7b h7c h7d h8
    rfl
  · have ht:Ba m=Lib.uvarint m.refs.length++m.refs.flatMap B4:=by unfold Ba;rw[hk];simp
    rw[ht]at hb ⊢
    rw[Mv (m:=msg0 m.kind m.session) hk]
    rw[Oj hb aa hU,Option.bind_some]
    have h2:=hB.ids rfl
    have h3:=hB.size rfl
    have h4:=hB.at_ rfl
    have h5:=hB.id rfl
    have h6:=hB.bytes rfl
    have h7:=hB.push rfl
    have h8:=hB.code rfl
    clear hB hU g j hI1 hI2 l
    obtain⟨k,s,r_,w,h,z,a,d,c,n,o,t,f,e⟩:=m
    simp only at h2 h3 h4 h5 h6 h7 h8
    obtain⟨h2a,h2b⟩:=h2
    obtain⟨h7a,h7b,h7c,h7d⟩:=h7
    subst h2a h2b h3 h4 h5 h6 h7a h7b h7c h7d h8
    rfl
  · have ht:Ba m=CK m.wants++CK m.haves:=by unfold Ba;rw[hk];simp
    rw[ht]at hb ⊢
    rw[Mw (m:=msg0 m.kind m.session) hk]
    simp only[List.append_assoc]at hb
    rw[MT hb hw1 hI1,Option.bind_some]
    have q:=CY hb
    rw[MT q hh1 hI2,Option.bind_some]
    have h1:=hB.refs rfl
    have h3:=hB.size rfl
    have h4:=hB.at_ rfl
    have h5:=hB.id rfl
    have h6:=hB.bytes rfl
    have h7:=hB.push rfl
    have h8:=hB.code rfl
    clear hB hU g j hI1 hI2 l
    obtain⟨k,s,r_,w,h,z,a,d,c,n,o,t,f,e⟩:=m
    simp only at h1 h3 h4 h5 h6 h7 h8
    obtain⟨h7a,h7b,h7c,h7d⟩:=h7
    subst h1 h3 h4 h5 h6 h7a h7b h7c h7d h8
    simp only[List.length_append,Nat.add_assoc]
  · have ht:Ba m=Lib.uvarint m.size.toNat++m.id.1:=by unfold Ba;rw[hk];simp
    rw[ht]at hb ⊢
    rw[Mx (m:=msg0 m.kind m.session) hk]
    simp only[List.append_assoc]at hb
    rw[E6 hb (by omega),Option.bind_some]
    have q:=CY hb
    rw[GR q,Option.bind_some]
    rw[Int.toNat_of_nonneg u]
    have h1:=hB.refs rfl
    have h2:=hB.ids rfl
    have h4:=hB.at_ rfl
    have h6:=hB.bytes rfl
    have h7:=hB.push rfl
    have h8:=hB.code rfl
    clear hB hU g j hI1 hI2 l
    obtain⟨k,s,r_,w,h,z,a,d,c,n,o,t,f,e⟩:=m
    simp only at h1 h2 h4 h6 h7 h8
    obtain⟨h2a,h2b⟩:=h2
    obtain⟨h7a,h7b,h7c,h7d⟩:=h7
    subst h1 h2a h2b h4 h6 h7a h7b h7c h7d h8
    simp only[List.length_append,Nat.add_assoc]
  · have ht:Ba m=Lib.uvarint m.at_.toNat:=by unfold Ba;rw[hk];simp
    rw[ht]at hb ⊢
    rw[My (m:=msg0 m.kind m.session) hk]
    rw[E6 hb (by omega),Option.bind_some]
    rw[Int.toNat_of_nonneg ha0]
    have h1:=hB.refs rfl
    have h2:=hB.ids rfl
    have h3:=hB.size rfl
    have h5:=hB.id rfl
    have h6:=hB.bytes rfl
    have h7:=hB.push rfl
    have h8:=hB.code rfl
    clear hB hU g j hI1 hI2 l
    obtain⟨k,s,r_,w,h,z,a,d,c,n,o,t,f,e⟩:=m
    simp only at h1 h2 h3 h5 h6 h7 h8
    obtain⟨h2a,h2b⟩:=h2
    obtain⟨h7a,h7b,h7c,h7d⟩:=h7
    subst h1 h2a h2b h3 h5 h6 h7a h7b h7c h7d h8
    rfl
  · have ht:Ba m=Lib.uvarint m.at_.toNat++Bq m.bytes:=by unfold Ba;rw[hk];simp
    rw[ht]at hb ⊢
    rw[Mz (m:=msg0 m.kind m.session) hk]
    simp only[List.append_assoc]at hb
    rw[E6 hb (by omega),Option.bind_some]
    have q:=CY hb
    rw[Kg q (g rfl) (by omega),Option.bind_some]
    rw[Int.toNat_of_nonneg ha0]
    have h1:=hB.refs rfl
    have h2:=hB.ids rfl
    have h3:=hB.size rfl
    have h5:=hB.id rfl
    have h7:=hB.push rfl
    have h8:=hB.code rfl
    clear hB hU g j hI1 hI2 l
    obtain⟨k,s,r_,w,h,z,a,d,c,n,o,t,f,e⟩:=m
    simp only at h1 h2 h3 h5 h7 h8
    obtain⟨h2a,h2b⟩:=h2
    obtain⟨h7a,h7b,h7c,h7d⟩:=h7
    subst h1 h2a h2b h3 h5 h7a h7b h7c h7d h8
    simp only[List.length_append,Nat.add_assoc]
  · have ht:Ba m=Lib.uvarint m.size.toNat++(m.id.1++(Bq m.name++(m.old.1++(m.new.1++ [Ej m.force])))):=by unfold Ba;rw[hk];simp
    rw[ht]at hb ⊢
    rw[MA (m:=msg0 m.kind m.session) hk]
    simp only[List.append_assoc]at hb
    rw[E6 hb (by omega),Option.bind_some]
    have q:=CY hb
    rw[GR q,Option.bind_some]
    have v:=CY q
    rw[Kg v (j rfl) (by omega),Option.bind_some]
    have x:=CY v
    rw[GR x,Option.bind_some]
    have y:=CY x
    rw[GR y,Option.bind_some]
    have e5:=CY y
    rw[Ix e5,Option.bind_some]
    rw[if_pos (I1 m.force).1,Int.toNat_of_nonneg u]
    simp only[(I1 m.force).2]
    have h1:=hB.refs rfl
    have h2:=hB.ids rfl
    have h4:=hB.at_ rfl
    have h6:=hB.bytes rfl
    have h8:=hB.code rfl
    clear hB hU g j hI1 hI2 l
    obtain⟨k,s,r_,w,h,z,a,d,c,n,o,t,f,e⟩:=m
    simp only at h1 h2 h4 h6 h8
    obtain⟨h2a,h2b⟩:=h2
    subst h1 h2a h2b h4 h6 h8
    simp only[List.length_append,List.length_singleton,Nat.add_assoc]
  · have ht:Ba m=Lib.uvarint m.code.toNat:=by unfold Ba;rw[hk];simp
    rw[ht]at hb ⊢
    rw[MB (m:=msg0 m.kind m.session) hk]
    rw[E6 hb (by omega),Option.bind_some]
    rw[Int.toNat_of_nonneg hd0]
    have h1:=hB.refs rfl
    have h2:=hB.ids rfl
    have h3:=hB.size rfl
    have h4:=hB.at_ rfl
    have h5:=hB.id rfl
    have h6:=hB.bytes rfl
    have h7:=hB.push rfl
    clear hB hU g j hI1 hI2 l
    obtain⟨k,s,r_,w,h,z,a,d,c,n,o,t,f,e⟩:=m
    simp only at h1 h2 h3 h4 h5 h6 h7
    obtain⟨h2a,h2b⟩:=h2
    obtain⟨h7a,h7b,h7c,h7d⟩:=h7
    subst h1 h2a h2b h3 h4 h5 h6 h7a h7b h7c h7d
    rfl
theorem I2{m:Msg}(hR:rightB m=true)(hI:DV m)(r:Bs):Cv (encB m++r)=if r= []then some m else none:=by
  obtain⟨p,hK,hP⟩:=DT hR
  obtain⟨h0,h1⟩:=(Dg hP).session
  have a:(encB m++r).drop 0=m.kind :: (Lib.uvarint m.session.toNat++(Ba m++r)):=by unfold encB;simp
  have b:(encB m++r).drop 1=Lib.uvarint m.session.toNat++(Ba m++r):=CY (u:= [m.kind]) a
  have c:=CY b
  rw[DU (Ix a) hK (E6 b (by omega)),show((m.session.toNat:Nat):Int)=m.session from Int.toNat_of_nonneg h0,MV hR hI c,Option.bind_some]
  have hl:(encB m).length=1+(Lib.uvarint m.session.toNat).length+(Ba m).length:=by unfold encB;simp;omega
  by_cases hr:r= []
  · subst hr
    rw[if_pos ⟨by rw[List.append_nil,hl],hR⟩,if_pos rfl]
  · have:=List.length_pos_iff.2 hr
    rw[if_neg (fun h=>by have:=h.1;rw[List.length_append,hl]at this;omega),if_neg hr]
theorem Ki{m:Msg}(hR:rightB m=true)(hI:DV m):Cv (encB m)=some m:=by
  have:=I2 hR hI []
  rwa [List.append_nil,if_pos rfl]at this
theorem Fx:∀(l:Bs) (k:Nat) (x:Nat × Nat),AQ k l=some x→l=Lib.uvarint x.1++l.drop x.2∧(0<k→0<x.1)
  | [],k,x,h=>by simp[AQ]at h
  | c :: r,k,x,h=>by
    have hc:=c.toNat_lt
    unfold AQ at h
    split at h
    · split at h
      · cases h
      · obtain⟨y,hy,rfl⟩:=Option.map_eq_some_iff.1 h
        obtain⟨h1,h2⟩:=Fx r (k+1) y hy
        have h2:=h2 (by omega)
        have a:(c.toNat-128+128*y.1)%128+128=c.toNat:=by omega
        have b:(c.toNat-128+128*y.1)/128=y.1:=by omega
        refine⟨?_,fun _=>by simp only;omega⟩
        simp only
        rw[Lib.uvarint_big (by omega),a,b,List.drop_succ_cons,List.cons_append,←h1]
        simp
    · split at h
      · cases h
      · rename_i h1 h2
        cases h
        refine⟨?_,fun _=>by simp only;omega⟩
        simp only
        rw[Lib.uvarint_small (by omega)]
        simp
theorem Iy{b:Bs}{i n:Nat}{c:UInt8}(h:Cx b i=some (c,n)):b.drop i= [c]++b.drop n:=by
  unfold Cx at h
  split at h
  · cases h
    rename_i hi
    rw[Gr 0 hi]
    rfl
  · cases h
theorem E8{b:Bs}{i n k:Nat}(h:Bk b i=some (k,n)):b.drop i=Lib.uvarint k++b.drop n:=by
  unfold Bk at h
  obtain⟨x,hx,h2⟩:=Option.map_eq_some_iff.1 h
  cases h2
  have:=(Fx _ _ _ hx).1
  rwa [List.drop_drop]at this
theorem GS{b:Bs}{i n:Nat}{x:CI}(h:CZ b i=some (x,n)):b.drop i=x.1++b.drop n:=by
  unfold CZ at h
  split at h
  · cases h
    show b.drop i=(b.drop i).take 32++b.drop (i+32)
    rw[←List.drop_drop,List.take_append_drop]
  · cases h
theorem Kj{b s:Bs}{i n most:Nat}(h:BU b i most=some (s,n)):b.drop i=Bq s++b.drop n:=by
  unfold BU at h
  split at h
  · cases h
  · rename_i x hx
    split at h
    · cases h
    · split at h
      · cases h
      · cases h
        have h1:=(Fx _ _ _ hx).1
        rw[List.drop_drop]at h1
        have hl:((b.drop (i+x.2)).take x.1).length=x.1:=by rw[List.length_take,List.length_drop];omega
        unfold Bq
        rw[hl,List.append_assoc,←List.drop_drop (i:=x.1),List.take_append_drop]
        exact h1
theorem ON{b:Bs}{i n:Nat}{u:AJ}(h:updP b i=some (u,n)):b.drop i=B4 u++b.drop n:=by
  unfold updP at h
  simp only[Option.bind_eq_some_iff]at h
  obtain⟨⟨c,j1⟩,h1,⟨s,j2⟩,h2,⟨x,j3⟩,h3,h4⟩:=h
  cases h4
  rw[Iy h1,Kj h2,GS h3]
  unfold B4
  simp only[List.append_assoc]
theorem N3{α:Type}{f:α→Bs}{Q:α→Prop}{b:Bs}{st:List α × Nat→Option (List α × Nat)}(hst:∀a i t,st (a,i)=some t→∃x,t.1=a++ [x]∧Q x∧b.drop i=f x++b.drop t.2):∀(n:Nat) (a:List α) (i:Nat) (t:List α × Nat),Dw st n (a,i)=some t→∃l,t.1=a++l∧l.length=n∧(∀x∈l,Q x)∧b.drop i=l.flatMap f++b.drop t.2
  | 0,a,i,t,h=>by cases h;exact⟨[],by simp,rfl,(fun x hx=>by cases hx),rfl⟩
  | n+1,a,i,t,h=>by
    obtain⟨u,h1,h2⟩:=F0 h
    obtain⟨l,c,e,g,j⟩:=N3 hst n a i u h1
    obtain⟨x,f1,f2,f3⟩:=hst u.1 u.2 t h2
    refine⟨l++ [x],by rw[f1,c,List.append_assoc],by simp[e],fun y hy=> ?_,?_⟩
    · rcases List.mem_append.1 hy with hy | hy
      · exact g y hy
      · rw[List.mem_singleton.1 hy];exact f2
    · rw[j,f3,List.flatMap_append,List.flatMap_singleton,List.append_assoc]
theorem Lg{α:Type}{f:α→Bs}{Q:α→Prop}{b:Bs}{most i:Nat}{st:List α × Nat→Option (List α × Nat)}{t:List α × Nat}(hst:∀a i t,st (a,i)=some t→∃x,t.1=a++ [x]∧Q x∧b.drop i=f x++b.drop t.2)(h:BO b i most st []=some t):b.drop i=(Lib.uvarint t.1.length++t.1.flatMap f)++b.drop t.2∧∀x∈t.1,Q x:=by
  obtain⟨n,j,h1,-,h2⟩:=Fo h
  obtain⟨l,c,e,g,k⟩:=N3 hst n [] j t h2
  rw[List.nil_append]at c
  rw[c,E8 h1,e,k,List.append_assoc]
  exact⟨rfl,g⟩
theorem Ok{b:Bs}{i:Nat}{t:List AJ × Nat}(h:BO b i 128 (addUpd b) []=some t):b.drop i=(Lib.uvarint t.1.length++t.1.flatMap B4)++b.drop t.2:=
  (Lg (Q:=fun _=>True) (f:=B4) (fun a i t h=>by
    unfold addUpd at h
    obtain⟨x,hx,h2⟩:=Option.map_eq_some_iff.1 h
    cases h2
    exact⟨x.1,rfl,trivial,ON hx⟩) h).1
theorem MW{b:Bs}{i:Nat}{t:List Bs × Nat}(h:BO b i 65536 (addId b) []=some t):b.drop i=CK t.1++b.drop t.2∧∀x∈t.1,x.length=32:=
  Lg (Q:=fun x=>x.length=32) (f:=fun x=>x) (fun a i t h=>by
    unfold addId at h
    obtain⟨x,hx,h2⟩:=Option.map_eq_some_iff.1 h
    cases h2
    exact⟨x.1.1,rfl,x.1.2,GS hx⟩) h
theorem Ol{k:UInt8}{s:Int}{b:Bs}{i:Nat}{z:Msg × Nat}(h:Ck b (msg0 k s) i=some z):b.drop i=Ba z.1++b.drop z.2∧z.1.kind=k∧z.1.session=s∧DV z.1:=by
  have hn:DV (msg0 k s):=⟨fun x hx=>(by cases hx),fun x hx=>(by cases hx)⟩
  have key:∀(m:Msg) (j:Nat) (t:Bs),z=(m,j)→m.kind=k→m.session=s→DV m→Ba m=t→b.drop i=t++b.drop j→b.drop i=Ba z.1++b.drop z.2∧z.1.kind=k∧z.1.session=s∧DV z.1:=by
    rintro m j t rfl h1 h2 h3 rfl h4
    exact⟨h4,h1,h2,h3⟩
  unfold Ck at h
  split at h
  · rename_i hk
    replace hk:k=1:=hk
    cases h
    exact key _ _ [] rfl rfl rfl hn (by unfold Ba;simp only[hk];simp) rfl
  · split at h
    · rename_i hk
      replace hk:k=2:=hk
      simp only[Option.bind_eq_some_iff]at h
      obtain⟨⟨l,j⟩,h1,h2⟩:=h
      cases h2
      exact key _ _ (Lib.uvarint l.length++l.flatMap B4) rfl rfl rfl hn (by unfold Ba;simp only[hk];simp) (Ok h1)
    · split at h
      · rename_i hk
        replace hk:k=3:=hk
        simp only[Option.bind_eq_some_iff]at h
        obtain⟨⟨l,j⟩,h1,⟨l2,j2⟩,h2,h3⟩:=h
        cases h3
        obtain⟨g1,g2⟩:=MW h1
        obtain⟨g3,g4⟩:=MW h2
        refine key _ _ (CK l++CK l2) rfl rfl rfl ⟨g2,g4⟩ (by unfold Ba;simp only[hk];simp) ?_
        rw[g1,g3,List.append_assoc]
      · split at h
        · rename_i hk
          replace hk:k=4:=hk
          simp only[Option.bind_eq_some_iff]at h
          obtain⟨⟨n,j⟩,h1,⟨x,j2⟩,h2,h3⟩:=h
          cases h3
          refine key _ _ (Lib.uvarint n++x.1) rfl rfl rfl hn (by unfold Ba;simp only[hk];simp) ?_
          rw[E8 h1,GS h2,List.append_assoc]
        · split at h
          · rename_i hk
            replace hk:k=5:=hk
            simp only[Option.bind_eq_some_iff]at h
            obtain⟨⟨n,j⟩,h1,h2⟩:=h
            cases h2
            exact key _ _ (Lib.uvarint n) rfl rfl rfl hn (by unfold Ba;simp only[hk];simp) (E8 h1)
          · split at h
            · rename_i hk
              replace hk:k=6:=hk
              simp only[Option.bind_eq_some_iff]at h
              obtain⟨⟨n,j⟩,h1,⟨x,j2⟩,h2,h3⟩:=h
              cases h3
              refine key _ _ (Lib.uvarint n++Bq x) rfl rfl rfl hn (by unfold Ba;simp only[hk];simp) ?_
              rw[E8 h1,Kj h2,List.append_assoc]
            · split at h
              · rename_i hk
                replace hk:k=7:=hk
                simp only[Option.bind_eq_some_iff]at h
                obtain⟨⟨n,j⟩,h1,⟨x,j2⟩,h2,⟨y,j3⟩,h3,⟨o,j4⟩,h4,⟨a,j5⟩,h5,⟨f,j6⟩,h6,h7⟩:=h
                split at h7
                · rename_i hf
                  cases h7
                  have hfb:Ej (decide (f.toNat=1))=f:=by
                    by_cases e:f.toNat=1
                    · rw[decide_eq_true e];exact(UInt8.toNat_inj.1 e).symm
                    · rw[decide_eq_false e];exact(UInt8.toNat_inj.1 (show f.toNat=0 by have:f.toNat≤1:=hf;omega)).symm
                  refine key _ _ (Lib.uvarint n++(x.1++(Bq y++(o.1++(a.1++ [f]))))) rfl rfl rfl hn (by unfold Ba;simp only[hk,hfb,Int.toNat_natCast];simp) ?_
                  rw[E8 h1,GS h2,Kj h3,GS h4,GS h5,Iy h6]
                  simp only[List.append_assoc]
                · cases h7
              · split at h
                · rename_i hk
                  replace hk:k=8:=hk
                  simp only[Option.bind_eq_some_iff]at h
                  obtain⟨⟨n,j⟩,h1,h2⟩:=h
                  cases h2
                  exact key _ _ (Lib.uvarint n) rfl rfl rfl hn (by unfold Ba;simp only[hk];simp) (E8 h1)
                · cases h
theorem GD{b:Bs}{m:Msg}(h:Cv b=some m):rightB m=true∧encB m=b∧DV m:=by
  unfold Cv at h
  rw[Option.bind_eq_some_iff]at h
  obtain⟨⟨k,j⟩,h1,h⟩:=h
  split at h
  · rw[Option.bind_eq_some_iff]at h
    obtain⟨⟨s,j2⟩,h2,h⟩:=h
    rw[Option.bind_eq_some_iff]at h
    obtain⟨⟨m',j3⟩,h3,h⟩:=h
    split at h
    · rename_i hq
      obtain rfl:m' =m:=Option.some.inj h
      obtain⟨g1,g2,g3,g4⟩:=Ol h3
      refine⟨hq.2,?_,g4⟩
      have e:b.drop 0= [k]++(Lib.uvarint s++(Ba m' ++b.drop j3)):=by rw[Iy h1,E8 h2,g1]
      rw[show j3=b.length from hq.1,List.drop_length,List.append_nil,List.drop_zero]at e
      rw[e]
      unfold encB
      rw[show m'.kind=k from g2,show m'.session=((s:Nat):Int)from g3]
      simp
    · cases h
  · cases h
theorem NH{m:Msg}(hR:rightB m=true)(hI:DV m){n:Nat}(hn:n<(encB m).length):Cv ((encB m).take n)=none:=by
  cases hd:Cv ((encB m).take n)with
  | none=>rfl
  | some m' =>
    obtain⟨h1,h2,h3⟩:=GD hd
    have h4:=I2 h1 h3 ((encB m).drop n)
    rw[h2,List.take_append_drop,Ki hR hI,if_neg (fun e=>by have:=congrArg List.length e;rw[List.length_drop,List.length_nil]at this;omega)]at h4
    cases h4
open Go.RowKit
def NJ(x y:AJ):Bool:=decide (x.kind=y.kind)&&(decide (x.name=y.name)&&(decide (x.old=y.old)&&(decide (x.new=y.new)&&true)))
theorem Kk{x y:AJ}:NJ x y=true↔x=y:=by
  obtain⟨a,b,c,d⟩:=x
  obtain⟨e,f,g,h⟩:=y
  simp[NJ]
instance:DecidableEq AJ:=fun _ _=>decidable_of_iff _ Kk
theorem Om(x y:AJ):NJ x y=decide (x=y):=by
  rw[Bool.eq_iff_iff,Kk,decide_eq_true_iff]
theorem N4(w:World)(x y:AJ):(Op.equalIn 10000 67 (.agg (updC x).toArray) (.agg (updC y).toArray)).run Tryd.prog w = .ok (decide (x=y)) w:=by
  refine(run_equalIn_struct w 9999 _ _ _ (by kernel_rfl) (by kernel_rfl)).trans ?_
  rw[←Om]
  exact FR (t:=5) (o:=0) (r:= [(9,1),(25,2),(25,34)]) (by kernel_rfl) (FS (by kernel_rfl) (Dp x)) (FS (by kernel_rfl) (Dp y)) (OH (d:=9998) (by kernel_rfl)) fun _ h=>
    FR h (FS (by kernel_rfl) (Ey x)) (FS (by kernel_rfl) (Ey y)) (Oe (d:=9998) (by kernel_rfl)) fun _ h=>
    FR h (GO (by kernel_rfl) (by kernel_rfl) (HF x) (HH x) x.old.2) (GO (by kernel_rfl) (by kernel_rfl) (HF y) (HH y) y.old.2) (Mq (d:=9997) (e:=5) (by kernel_rfl) (by kernel_rfl) (by kernel_rfl)) fun _ h=>
    FR h (GO (by kernel_rfl) (by kernel_rfl) (Ec x) (Ez x) x.new.2) (GO (by kernel_rfl) (by kernel_rfl) (Ec y) (Ez y) y.new.2) (Mq (d:=9997) (e:=5) (by kernel_rfl) (by kernel_rfl) (by kernel_rfl)) fun _ h=>Od h
def Hp(m:Msg):Bool:=(((decide (140<m.refs.length)||decide (200<m.wants.length))||decide (200<m.haves.length))||decide (400<m.bytes.length))||decide (100<m.name.length)
def lightB(m:Msg):Bool:= !Hp m&&m.refs.all fun u=> !decide (100<u.name.length)
structure LightM (m : Msg) : Prop where
  refs:m.refs.length≤140
  wants:m.wants.length≤200
  haves:m.haves.length≤200
  bytes:m.bytes.length≤400
  name:m.name.length≤100
  names:∀u∈m.refs,u.name.length≤100
theorem Lh{m:Msg}(h:Hp m=false):m.refs.length≤140∧m.wants.length≤200∧m.haves.length≤200∧m.bytes.length≤400∧m.name.length≤100:=by
  unfold Hp at h
  simp only[Bool.or_eq_false_iff,decide_eq_false_iff_not]at h
  omega
theorem LW{m:Msg}(h:lightB m=true):LightM m:=by
  unfold lightB at h
  simp only[Bool.and_eq_true,Bool.not_eq_true',List.all_eq_true,decide_eq_false_iff_not]at h
  obtain⟨h1,h2,h3,h4,h5⟩:=Lh h.1
  exact⟨h1,h2,h3,h4,h5,fun u hu=>by have:=h.2 u hu;omega⟩
theorem LX{m:Msg}(h:Hp m=true):lightB m=false:=by unfold lightB;rw[h];rfl
theorem KP{m:Msg}{i:Nat}(hi:i<m.refs.length)(h:100<(m.refs.getD i Ac).name.length):lightB m=false:=by
  unfold lightB
  rw[Bool.and_eq_false_iff]
  refine .inr ?_
  rw[List.all_eq_false]
  exact⟨_,E3 Ac hi,by simpa using h⟩
theorem LY{m:Msg}(h:Hp m=false)(h2:(m.refs.take m.refs.length).all (fun u=> !decide (100<u.name.length))=true):lightB m=true:=by
  unfold lightB
  rw[List.take_length]at h2
  rw[h,h2]
  rfl
theorem LightM.lt{m:Msg}(h:LightM m):B9 m:=
  ⟨Nat.le_trans h.refs (by decide),fun u hu=>Nat.le_trans (h.names u hu) (by decide),Nat.le_trans h.wants (by decide),Nat.le_trans h.haves (by decide),Nat.le_trans h.name (by decide)⟩
theorem MsgAt.ids{w:World}{x:Ah}(h:MsgAt w x):DV x.1:=⟨h.wants.lens,h.haves.lens⟩
theorem I3{m:Msg}(h:rightB m=true):B9 m:=by
  obtain⟨p,hK,hP⟩:=DT h
  have hF:=Dg hP
  obtain⟨hA,-⟩:=EG hP
  have hB:=GC hA
  refine⟨Nat.le_trans hF.refs.1 (by decide),fun u hu=>Nat.le_trans (hF.refs.2 u hu) (by decide),Nat.le_trans hF.wants (by decide),Nat.le_trans hF.haves (by decide),?_⟩
  cases hp:p.push with
  | true=>exact Nat.le_trans (hF.name hp) (by decide)
  | false=>rw[(hB.push hp).1];exact Nat.zero_le _
theorem OO(k:UInt8)(s:Int):B9 (msg0 k s):=⟨Nat.zero_le _,fun u hu=>(by cases hu),Nat.zero_le _,Nat.zero_le _,Nat.zero_le _⟩
def MX(m n:Msg):Bool:=(((((((((((decide (m.kind.toNat=n.kind.toNat)&&decide (m.session=n.session))&&decide (m.wants=n.wants))&&decide (m.haves=n.haves))&&decide (m.size=n.size))&&decide (m.at_=n.at_))&&decide (m.id.1=n.id.1))&&decide (m.bytes=n.bytes))&&decide (m.name=n.name))&&decide (m.old.1=n.old.1))&&decide (m.new.1=n.new.1))&&(m.force==n.force))&&decide (m.code=n.code)
open Classical in
noncomputable def Da(m n:Msg):Bool:=decide (m=n)
theorem Ie{m n:Msg}(h:m.refs≠n.refs):Da m n=false:=by
  classical
  exact decide_eq_false fun e=>h (by rw[e])
theorem KQ{m n:Msg}(h:m.refs=n.refs):MX m n=Da m n:=by
  classical
  obtain⟨k,s,r,w,v,z,a,i,b,t,o,q,f,c⟩:=m
  obtain⟨k',s',r',w',v',z',a',i',b',t',o',q',f',c'⟩:=n
  simp only at h
  subst h
  unfold Da MX
  rw[Bool.eq_iff_iff]
  simp only[Bool.and_eq_true,decide_eq_true_eq,beq_iff_eq,Msg.mk.injEq,UInt8.toNat_inj,Subtype.ext_iff]
  constructor
  · rintro⟨⟨⟨⟨⟨⟨⟨⟨⟨⟨⟨⟨rfl,rfl⟩,rfl⟩,rfl⟩,rfl⟩,rfl⟩,h1⟩,rfl⟩,rfl⟩,h2⟩,h3⟩,rfl⟩,rfl⟩
    exact⟨rfl,rfl,trivial,rfl,rfl,rfl,rfl,h1,rfl,rfl,h2,h3,rfl,rfl⟩
  · rintro⟨rfl,rfl,-,rfl,rfl,rfl,rfl,h1,rfl,rfl,h2,h3,rfl,rfl⟩
    exact⟨⟨⟨⟨⟨⟨⟨⟨⟨⟨⟨⟨rfl,rfl⟩,rfl⟩,rfl⟩,rfl⟩,rfl⟩,h1⟩,rfl⟩,rfl⟩,h2⟩,h3⟩,rfl⟩,rfl⟩
theorem LZ(m:Msg):Da m m=true:=by
  classical
  exact decide_eq_true rfl
def NK(m:Msg)(c:Nat):Option Msg→Prop
  | some n=>c=0∧m=n
  | none=>c=6∧m=msg0 0 0
theorem DecRes.all{w:World}{X:Ah}{c:Nat}{o:Option Msg}(h:DecRes w X c o):MsgAt w X∧NK X.1 c o:=by
  cases o with
  | some m=>exact⟨h.2.2,h.1,h.2.1⟩
  | none=>
    obtain⟨h1,h2⟩:=h
    subst h2
    exact⟨⟨RG.nil _ _ _,RG.nil _ _ _,RG.nil _ _ _,RB.nil _⟩,h1,rfl⟩
theorem F2(w:World)(v:Value)(b:Bs)(hr:RB w v b)(hl:b.length≤4611686018427387904):
    Calls Tryd.prog 22 #[v] w fun e w' =>∃X c,e = .returned (.tuple #[.agg (msgC X).toArray,NI c])∧MsgAt w' X∧NK X.1 c (Cv b)∧Ext w w' :=
  (LU w v b hr hl).mono fun e w' h=>by
    obtain⟨x,rfl,X,c,rfl,h1,h2⟩:=h
    exact⟨X,c,rfl,h1.all.1,h1.all.2,h2⟩
theorem I4:BG []=true:=by
  classical
  exact decide_eq_true ⟨fun j h=>(by cases h),by decide⟩
theorem Kl:BT []=true:=by
  classical
  have:E2 []=true:=decide_eq_true (fun j _ h=>(by cases h))
  unfold BT
  rw[this]
  rfl
theorem NL:rightB (msg0 1 5)=true:=by
  rw[C7 (m:=msg0 1 5) (p:=BA) rfl]
  unfold C4
  rw[I4,Kl]
  rfl
theorem Km:rightB { msg0 8 300 with code:=13 } = true:=by
  rw[C7 (m:= { msg0 8 300 with code:=13 }) (p:=⟨false,false,false,false,false,false,false,true⟩) rfl]
  unfold C4
  show(!(((((!boundB 300 2147483647|| !CG _ _)|| !BG [])|| !BT [])|| !BT []))&&_)=true
  rw[I4,Kl]
  rfl
theorem Oo(k:UInt8)(s c:Int):DV { msg0 k s with code:=c } :=⟨fun x hx=>(by cases hx),fun x hx=>(by cases hx)⟩
theorem OP:encB (msg0 1 5)= [1,5]:=by
  show(1:UInt8) :: (Lib.uvarint 5++ [])=_
  rw[Lib.uvarint_small (by decide)]
  rfl
theorem Kn:encB { msg0 8 300 with code:=13 } = [8,172,2,13]:=by
  show(8:UInt8) :: (Lib.uvarint 300++Lib.uvarint 13)=_
  rw[Lib.uvarint_big (by decide),Lib.uvarint_small (show 300/128<128 by decide),Lib.uvarint_small (show 13<128 by decide)]
  rfl
theorem Ko{w:World}{X:Ah}{m:Msg}{b:Bs}(h:X.1=m)(h2:X.2=⟨.slice none 0 0, .slice none 0 0, .slice none 0 0, .slice none 0 0⟩)(hl:m.refs= []∧m.wants= []∧m.haves= []∧m.bytes= []∧m.name= [])(hR:rightB m=true)(hb:encB m=b):
    Calls Tryd.prog 16 #[.agg (msgC X).toArray] w fun e w' =>∃v,e = .returned (.tuple #[v,NI 0])∧RB w' v b∧Ext w w' :=by
  obtain⟨X1,X2⟩:=X
  subst h h2 hb
  obtain⟨a,c,f,g,i⟩:=hl
  refine(FX w (X1,_) ⟨by rw[a];exact RG.nil _ _ _,by rw[c];exact RG.nil _ _ _,by rw[f];exact RG.nil _ _ _,by rw[g];exact RB.nil _⟩ (I3 hR)).mono ?_
  rintro e w' ⟨v,rfl,h1,h2⟩
  rw[if_pos hR]at h1
  exact⟨v,by rw[if_pos hR],h1,h2⟩
theorem OQ:Cv ([8,172,2,13].take 3)=none:=by
  have:=NH Km (Oo 8 300 13) (n:=3) (by rw[Kn];decide)
  rwa [Kn]at this
open Go.RowKit
set_option maxRecDepth 100000
theorem I5:Tryd.prog.eqGuardType Tryd.prog.depth 67=false:=by kernel_rfl
theorem I6:AN Tryd.prog 41:=fun _ _=>by kernel_rfl
theorem Iz(z0:Int)(z1:Int)(w:World):(Instr.build 29 #[(0, .int .u8 z0),(1, .int .i64 z1)]).run Tryd.prog w = .ok (.agg #[.int .u8 z0, .int .i64 z1, .slice none 0 0, .slice none 0 0, .slice none 0 0, .int .i64 0, .int .i64 0, .int .u8 0, .int .u8 0, .int .u8 0, .int .u8 0, .int .u8 0, .int .u8 0, .int .u8 0, .int .u8 0, .int .u8 0, .int .u8 0, .int .u8 0, .int .u8 0, .int .u8 0, .int .u8 0, .int .u8 0, .int .u8 0, .int .u8 0, .int .u8 0, .int .u8 0, .int .u8 0, .int .u8 0, .int .u8 0, .int .u8 0, .int .u8 0, .int .u8 0, .int .u8 0, .int .u8 0, .int .u8 0, .int .u8 0, .int .u8 0, .int .u8 0, .int .u8 0, .slice none 0 0, .string ⟨#[]⟩, .int .u8 0, .int .u8 0, .int .u8 0, .int .u8 0, .int .u8 0, .int .u8 0, .int .u8 0, .int .u8 0, .int .u8 0, .int .u8 0, .int .u8 0, .int .u8 0, .int .u8 0, .int .u8 0, .int .u8 0, .int .u8 0, .int .u8 0, .int .u8 0, .int .u8 0, .int .u8 0, .int .u8 0, .int .u8 0, .int .u8 0, .int .u8 0, .int .u8 0, .int .u8 0, .int .u8 0, .int .u8 0, .int .u8 0, .int .u8 0, .int .u8 0, .int .u8 0, .int .u8 0, .int .u8 0, .int .u8 0, .int .u8 0, .int .u8 0, .int .u8 0, .int .u8 0, .int .u8 0, .int .u8 0, .int .u8 0, .int .u8 0, .int .u8 0, .int .u8 0, .int .u8 0, .int .u8 0, .int .u8 0, .int .u8 0, .int .u8 0, .int .u8 0, .int .u8 0, .int .u8 0, .int .u8 0, .int .u8 0, .int .u8 0, .int .u8 0, .int .u8 0, .int .u8 0, .int .u8 0, .int .u8 0, .int .u8 0, .int .u8 0, .int .u8 0, .bool false, .int .i64 0]) w:=by kernel_rfl
theorem Ju(z0:UInt8)(z1:Int)(w:World):(Instr.build 29 #[(0,B8 z0),(1, .int .i64 z1)]).run Tryd.prog w = .ok (.agg (B8 (z0) :: (.int .i64 (z1) :: ((Value.slice none 0 0) :: ((Value.slice none 0 0) :: ((Value.slice none 0 0) :: (.int .i64 (0) :: (.int .i64 (0) :: (Lib.byteCells zid.1++((Value.slice none 0 0) :: (St ([]) :: (Lib.byteCells zid.1++(Lib.byteCells zid.1++(.bool (false) :: (.int .i64 (0) :: ([]))))))))))))))).toArray) w:=by
 exact Iz _ _ w
theorem I7:AN Tryd.prog 16:=fun _ _=>by kernel_rfl
theorem GW(z0:Int)(z1:Int)(z13:Int)(w:World):(Instr.build 29 #[(0, .int .u8 z0),(1, .int .i64 z1),(13, .int .i64 z13)]).run Tryd.prog w = .ok (.agg #[.int .u8 z0, .int .i64 z1, .slice none 0 0, .slice none 0 0, .slice none 0 0, .int .i64 0, .int .i64 0, .int .u8 0, .int .u8 0, .int .u8 0, .int .u8 0, .int .u8 0, .int .u8 0, .int .u8 0, .int .u8 0, .int .u8 0, .int .u8 0, .int .u8 0, .int .u8 0, .int .u8 0, .int .u8 0, .int .u8 0, .int .u8 0, .int .u8 0, .int .u8 0, .int .u8 0, .int .u8 0, .int .u8 0, .int .u8 0, .int .u8 0, .int .u8 0, .int .u8 0, .int .u8 0, .int .u8 0, .int .u8 0, .int .u8 0, .int .u8 0, .int .u8 0, .int .u8 0, .slice none 0 0, .string ⟨#[]⟩, .int .u8 0, .int .u8 0, .int .u8 0, .int .u8 0, .int .u8 0, .int .u8 0, .int .u8 0, .int .u8 0, .int .u8 0, .int .u8 0, .int .u8 0, .int .u8 0, .int .u8 0, .int .u8 0, .int .u8 0, .int .u8 0, .int .u8 0, .int .u8 0, .int .u8 0, .int .u8 0, .int .u8 0, .int .u8 0, .int .u8 0, .int .u8 0, .int .u8 0, .int .u8 0, .int .u8 0, .int .u8 0, .int .u8 0, .int .u8 0, .int .u8 0, .int .u8 0, .int .u8 0, .int .u8 0, .int .u8 0, .int .u8 0, .int .u8 0, .int .u8 0, .int .u8 0, .int .u8 0, .int .u8 0, .int .u8 0, .int .u8 0, .int .u8 0, .int .u8 0, .int .u8 0, .int .u8 0, .int .u8 0, .int .u8 0, .int .u8 0, .int .u8 0, .int .u8 0, .int .u8 0, .int .u8 0, .int .u8 0, .int .u8 0, .int .u8 0, .int .u8 0, .int .u8 0, .int .u8 0, .int .u8 0, .int .u8 0, .int .u8 0, .int .u8 0, .bool false, .int .i64 z13]) w:=by kernel_rfl
theorem Hq(z0:UInt8)(z1:Int)(z13:Int)(w:World):(Instr.build 29 #[(0,B8 z0),(1, .int .i64 z1),(13, .int .i64 z13)]).run Tryd.prog w = .ok (.agg (B8 (z0) :: (.int .i64 (z1) :: ((Value.slice none 0 0) :: ((Value.slice none 0 0) :: ((Value.slice none 0 0) :: (.int .i64 (0) :: (.int .i64 (0) :: (Lib.byteCells zid.1++((Value.slice none 0 0) :: (St ([]) :: (Lib.byteCells zid.1++(Lib.byteCells zid.1++(.bool (false) :: (.int .i64 (z13) :: ([]))))))))))))))).toArray) w:=by
 exact GW _ _ _ w
theorem MY:AN Tryd.prog 22:=fun _ _=>by kernel_rfl
set_option maxHeartbeats 1600000
theorem MZ(w:World)(x:Ah)(hm:MsgAt w x):
  Calls Tryd.prog 15 #[.agg (msgC x).toArray] w fun e w' =>e = .returned (.bool (lightB x.1))∧Ext w w' :=by
 have hmr:=hm.refs
 have hmw:=hm.wants
 have hmh:=hm.haves
 have hmb:=hm.bytes
 refine calls_of_wpF (args:= [.agg (msgC x).toArray]) Tryd.func15 rfl 47 rfl (Nat.le_of_ble_eq_true rfl) ?_
 intro t hb
 have h:t 0=(.agg (msgC x).toArray:Value):=hb.get 0
 clear hb
 have hE:=Ext.refl w
 refine sk fun K1 v=>(wt (oS rfl (Yk.box (cs:=(msgC x:List Value).toArray) h fun c y aq p z ar=> ?_)))
 have hE:=hE.trans z
 have f:=p;clear p
 have au:c<y.heap.size:=by omega
 refine oA rfl (oZ (tN (v _ _ (sk fun av aa=>(sk fun aw ab=>(wt (oS rfl (Yk.fieldAt H0 (vr (PQ c 0) rfl) (oS rfl (Yk.cell1 CJ rfl (vr (PQ c 2) rfl) (Ab f (show(msgC x)[2]? =some (x.2.refs:Value)from BF x)) (oS rfl (Yk.lenRG CJ (RG.of (hmr.keep hE) (vr x.2.refs rfl)) (oS rfl (Yk.eqI (a:=((x.1.refs).length:Nat)) (b:=(140:Nat)) rfl rfl (k_gtr _ _ _ _) (oM rfl (Ad (PQ c 3) rfl rfl (gF (vr (.bool (decide ((140)<((x.1.refs).length)))) rfl)) (fun hG12=>Yk.fieldAt H1 (vr (PQ c 0) rfl) ⟨rfl,rfl⟩) (Ad (x.2.wants) rfl rfl (gF (vr (.bool (decide ((140)<((x.1.refs).length)))) rfl)) (fun hG13=>Yk.cell1 Bw rfl (mayT (vr (cond (!(decide ((140)<((x.1.refs).length)))) (PQ c 3) undef) rfl) hG13) (Ab f (show(msgC x)[3]? =some (x.2.wants:Value)from DE x)) ⟨rfl,rfl⟩) (Ad (NI ((x.1.wants).length)) rfl rfl (gF (vr (.bool (decide ((140)<((x.1.refs).length)))) rfl)) (fun hG14=>Yk.lenRG Bw (RG.of (hmw.keep hE) (mayT (vr (cond (!(decide ((140)<((x.1.refs).length)))) (x.2.wants) undef) rfl) hG14)) ⟨rfl,rfl⟩) (Ad (.bool (decide ((200)<((x.1.wants).length)))) rfl rfl (gF (vr (.bool (decide ((140)<((x.1.refs).length)))) rfl)) (fun hG15=>Yk.eqI (a:=(((x.1.wants).length:Nat):Int)) (b:=((200:Nat):Int)) (mayT (vr (cond (!(decide ((140)<((x.1.refs).length)))) (NI ((x.1.wants).length)) undef) rfl) hG15) (vr (NI 200) rfl) (k_gtr _ .i64 ((x.1.wants).length) (200)) ⟨rfl,rfl⟩) (oS rfl (Yk.pickOrN (vr (.bool (decide ((140)<((x.1.refs).length)))) rfl) (vr (.bool (true)) rfl) (fun hA=>(mayT (vr (cond (!(decide ((140)<((x.1.refs).length)))) (.bool (decide ((200)<((x.1.wants).length)))) undef) rfl) (not_i hA))) fun bb16 hbb17=> ?_)))))))))))))))))))))
 refine oM rfl (Ad (PQ c 4) rfl rfl (gF (vr (.bool (bb16)) rfl)) (fun hG18=>Yk.fieldAt H2 (vr (PQ c 0) rfl) ⟨rfl,rfl⟩) (Ad (x.2.haves) rfl rfl (gF (vr (.bool (bb16)) rfl)) (fun hG19=>Yk.cell1 Bw rfl (mayT (vr (cond (!bb16) (PQ c 4) undef) rfl) hG19) (Ab f (show(msgC x)[4]? =some (x.2.haves:Value)from DF x)) ⟨rfl,rfl⟩) (Ad (NI ((x.1.haves).length)) rfl rfl (gF (vr (.bool (bb16)) rfl)) (fun hG20=>Yk.lenRG Bw (RG.of (hmh.keep hE) (mayT (vr (cond (!bb16) (x.2.haves) undef) rfl) hG20)) ⟨rfl,rfl⟩) (Ad (.bool (decide ((200)<((x.1.haves).length)))) rfl rfl (gF (vr (.bool (bb16)) rfl)) (fun hG21=>Yk.eqI (a:=(((x.1.haves).length:Nat):Int)) (b:=((200:Nat):Int)) (mayT (vr (cond (!bb16) (NI ((x.1.haves).length)) undef) rfl) hG21) (vr (NI 200) rfl) (k_gtr _ .i64 ((x.1.haves).length) (200)) ⟨rfl,rfl⟩) (oS rfl (Yk.pickOrN (vr (.bool (bb16)) rfl) (vr (.bool (true)) rfl) (fun hA=>(mayT (vr (cond (!bb16) (.bool (decide ((200)<((x.1.haves).length)))) undef) rfl) (not_i hA))) fun bb22 hbb23=>(oM rfl (Ad (PQ c 39) rfl rfl (gF (vr (.bool (bb22)) rfl)) (fun hG24=>Yk.fieldAt FT (vr (PQ c 0) rfl) ⟨rfl,rfl⟩) (Ad (x.2.bytes) rfl rfl (gF (vr (.bool (bb22)) rfl)) (fun hG25=>Yk.cell1 El rfl (mayT (vr (cond (!bb22) (PQ c 39) undef) rfl) hG25) (Ab f (show(msgC x)[39]? =some (x.2.bytes:Value)from Ds x)) ⟨rfl,rfl⟩) (Ad (NI ((x.1.bytes:List UInt8).length)) rfl rfl (gF (vr (.bool (bb22)) rfl)) (fun hG26=>Yk.lenRB El (RB.of (hmb.keep hE) (mayT (vr (cond (!bb22) (x.2.bytes) undef) rfl) hG26)) ⟨rfl,rfl⟩) (Ad (.bool (decide ((400)<((x.1.bytes:List UInt8).length)))) rfl rfl (gF (vr (.bool (bb22)) rfl)) (fun hG27=>Yk.eqI (a:=(((x.1.bytes:List UInt8).length:Nat):Int)) (b:=((400:Nat):Int)) (mayT (vr (cond (!bb22) (NI ((x.1.bytes:List UInt8).length)) undef) rfl) hG27) (vr (NI 400) rfl) (k_gtr _ .i64 ((x.1.bytes:List UInt8).length) (400)) ⟨rfl,rfl⟩) (oS rfl (Yk.pickOrN (vr (.bool (bb22)) rfl) (vr (.bool (true)) rfl) (fun hA=>(mayT (vr (cond (!bb22) (.bool (decide ((400)<((x.1.bytes:List UInt8).length)))) undef) rfl) (not_i hA))) fun bb28 hbb29=>(oM rfl (Ad (PQ c 40) rfl rfl (gF (vr (.bool (bb28)) rfl)) (fun hG30=>Yk.fieldAt H7 (vr (PQ c 0) rfl) ⟨rfl,rfl⟩) (Ad (St (x.1.name)) rfl rfl (gF (vr (.bool (bb28)) rfl)) (fun hG31=>Yk.cell1 CD rfl (mayT (vr (cond (!bb28) (PQ c 40) undef) rfl) hG31) (Ab f (show(msgC x)[40]? =some (St (x.1.name):Value)from Ee x)) ⟨rfl,rfl⟩) (Ad (NI ((x.1.name:List UInt8).length)) rfl rfl (gF (vr (.bool (bb28)) rfl)) (fun hG32=>Yk.lenSt (l:=x.1.name) CD (mayT (vr (cond (!bb28) (St (x.1.name)) undef) rfl) hG32) ⟨rfl,rfl⟩) ?_)))))))))))))))))
 refine Ad (.bool (decide ((100)<((x.1.name:List UInt8).length)))) rfl rfl (gF (vr (.bool (bb28)) rfl)) (fun hG33=>Yk.eqI (a:=(((x.1.name:List UInt8).length:Nat):Int)) (b:=((100:Nat):Int)) (mayT (vr (cond (!bb28) (NI ((x.1.name:List UInt8).length)) undef) rfl) hG33) (vr (NI 100) rfl) (k_gtr _ .i64 ((x.1.name:List UInt8).length) (100)) ⟨rfl,rfl⟩) (oS rfl (Yk.pickOrN (vr (.bool (bb28)) rfl) (vr (.bool (true)) rfl) (fun hA=>(mayT (vr (cond (!bb28) (.bool (decide ((100)<((x.1.name:List UInt8).length)))) undef) rfl) (not_i hA))) fun bb34 hbb35=>(oZ (tN (ab _ _ ?_)))))
 refine Bz (bb34) (vr (.bool (bb34)) rfl) (fun m=> ?_) (fun m=> ?_)
 ·subst hbb17 hbb23 hbb29 hbb35
  have hbig:Hp x.1=true:=m
  refine sk fun ax ac=>(wt (oA rfl (oZ (tN (ac _ _ (Ao (Ap (An (fn:=Tryd.f15) _ rfl [.bool (false)] (.bool (false)) rfl ⟨rfl,trivial⟩ ?_))))))))
  exact⟨by rw[LX hbig],hE⟩
 subst hbb17 hbb23 hbb29 hbb35
 have hbig:Hp x.1=false:=m
 have hl:=(Lh hbig).1
 refine Ak (tN (aa _ _ (sk fun ay ad=>(sk fun az ae=>(wt (oA rfl (Bp [(0, .agg (msgC x).toArray),(1,PQ c 0),(2, .bool (false)),(3,NI 0)] ⟨h,rfl,rfl,rfl,trivial⟩ fun a0 ⟨h,j,T2,g,_⟩=>(tN (ae _ _ (AA (Bu (fun(ρ:As) (wz:World)=>∃i:Nat,ρ 0=(.agg (msgC x).toArray:Value)∧ρ 1=(PQ c 0:Value)∧ρ 3=(NI i:Value)∧Ext w wz∧wz.heap[c]? =some (.cells (msgC x).toArray 29 (0,0))∧(i≤x.1.refs.length)∧((x.1.refs.take i).all (fun u=> !decide (100<u.name.length))=true)∧True) (fun ρ _=>x.1.refs.length-(intOf (ρ 3)).toNat) ⟨0,h,j,g,hE,f,Nat.zero_le _,rfl,trivial⟩ ?_)))))))))))
 clear hE f
 rintro af ag ⟨i,h,j,g,hE,f,hi,hq,-⟩
 have q3:=g
 refine sk fun a2 ah=>(sk fun a3 ai=>(wt (oM rfl (oS rfl (Yk.fieldAt H0 j (oS rfl (Yk.cell1 CJ rfl (vr (PQ c 2) rfl) (Ab f (show(msgC x)[2]? =some (x.2.refs:Value)from BF x)) (oS rfl (Yk.lenRG CJ (RG.of (hmr.keep hE) (vr x.2.refs rfl)) (oS rfl (Yk.eqI (a:=(i:Nat)) (b:=((x.1.refs).length:Nat)) g rfl (A0 _ _ _ _) (oZ (tN (ai _ _ ?_))))))))))))))
 refine AX ((i)<((x.1.refs).length)) (vr (.bool (decide ((i)<((x.1.refs).length)))) rfl) (fun q=> ?_) (fun q=> ?_)
 ·have hlt:i<x.1.refs.length:=q
  refine Ak (tN (ah _ _ (sk fun a4 aj=>(AA (sk fun a5 ak=>(wt (oS rfl (Yk.fieldAt H0 j (oS rfl (Yk.cell1 CJ rfl (vr (PQ c 2) rfl) (Ab f (show(msgC x)[2]? =some (x.2.refs:Value)from BF x)) (oM rfl ?_)))))))))))
  have a6:(updC ((x.1.refs).getD (i) Ac)).length=66:=(RG.elem (hmr.keep hE) Ac (by omega))
  refine oS rfl (Yk.atRG CJ Di (by decide) Ac (RG.of (hmr.keep hE) (vr x.2.refs rfl)) g (by omega) fun al r=>(oS rfl (Yk.fieldPR (n:=1) DS (PR.of r (vr al rfl)) fun s k=> ?_)))
  have k:PCell (St (((x.1.refs).getD (i) Ac).name)) s ag:=PR.pcell ((HC ((x.1.refs).getD (i) Ac))▸k)
  refine oS rfl (Yk.loadC CD rfl (PCell.of k (vr s rfl)) (oS rfl (Yk.lenSt (l:=((x.1.refs).getD (i) Ac).name) CD (vr (St (((x.1.refs).getD (i) Ac).name)) rfl) (oS rfl (Yk.eqI (a:=((((x.1.refs).getD (i) Ac).name:List UInt8).length:Nat)) (b:=(100:Nat)) rfl rfl (k_gtr _ _ _ _) (oZ ?_))))))
  clear r
  clear k
  refine tN (ak _ _ ?_)
  refine AX ((100)<((((x.1.refs).getD (i) Ac).name:List UInt8).length)) (vr (.bool (decide ((100)<((((x.1.refs).getD (i) Ac).name:List UInt8).length)))) rfl) (fun o=> ?_) (fun o=> ?_)
  ·refine sk fun a7 am=>(wt (oA rfl (oZ (tN (am _ _ (Ao (AM (Ap (Ap (AM (Ap (An (fn:=Tryd.f15) _ rfl [.bool (false)] (.bool (false)) rfl ⟨rfl,trivial⟩ ?_))))))))))))
   exact⟨by rw[KP hlt o],hE⟩
  refine Ak (bN (tN (aj _ _ (wt (oM rfl (oS rfl (Yk.bin (xv:=NI i) (yv:=NI 1) g rfl rfl (Be _ _ _ (by omega)) (oA rfl (Bp [(0, .agg (msgC x).toArray),(1,PQ c 0),(3,NI ((i)+(1)))] ⟨h,j,rfl,trivial⟩ fun an ⟨h,j,g,_⟩=>(tN (And.intro ⟨i+1,h,j,g,hE,f,by omega,Hg Ac hlt hq (by rw[decide_eq_false o];rfl),trivial⟩ ?_)))))))))))
  show x.1.refs.length-(intOf (an 3)).toNat<x.1.refs.length-(intOf (af 3)).toNat
  rw[g,q3]
  simp only[intOf,Int.toNat_natCast];omega
 refine Bm (Ax (Ax (AS (tN (ad _ _ (sk fun a8 ao=>(wt (oA rfl (oZ (tN (ao _ _ (Ao (An (fn:=Tryd.f15) _ rfl [.bool (true)] (.bool (true)) rfl ⟨rfl,trivial⟩ ?_)))))))))))))
 have hie:i=x.1.refs.length:=by omega
 subst hie
 exact⟨by rw[LY hbig hq],hE⟩

theorem Kp(w:World)(y z:Ah)(hm:MsgAt w y)(hn:MsgAt w z)(hL:B9 y.1):
  Calls Tryd.prog 24 #[.agg (msgC y).toArray, .agg (msgC z).toArray] w fun e w' =>e = .returned (.bool (Da y.1 z.1))∧Ext w w' :=by
 have hmr:=hm.refs
 have hmw:=hm.wants
 have hmh:=hm.haves
 have hmb:=hm.bytes
 have hnr:=hn.refs
 have hnw:=hn.wants
 have hnh:=hn.haves
 have hnb:=hn.bytes
 have bs:=hL.refs
 have bt:=hL.wants
 have bu:=hL.haves
 refine calls_of_wpF (args:= [.agg (msgC y).toArray, .agg (msgC z).toArray]) Tryd.func24 rfl 122 rfl (Nat.le_of_ble_eq_true rfl) ?_
 intro aw hb
 have q:aw 0=(.agg (msgC y).toArray:Value):=hb.get 0
 have r:aw 1=(.agg (msgC z).toArray:Value):=hb.get 1
 clear hb
 have hE:=Ext.refl w
 refine sk fun K1 ax=>(wt (oS rfl (Yk.box (cs:=(msgC y:List Value).toArray) q fun c w3 bw ay a1 bx=> ?_)))
 have hE:=hE.trans a1
 have g:=ay;clear ay
 have bz:c<w3.heap.size:=by omega
 refine oS rfl (Yk.box (cs:=(msgC z:List Value).toArray) r fun f a2 a3 az ae b0=> ?_)
 have t:=Ext.refl w3
 have b1:=hE.size
 have b2:=Bo (bl g) a3
 have hE:=hE.trans ae
 have g:=eb ae g
 have t:=t.trans ae
 have j:=az;clear az
 have b3:f<a2.heap.size:=by omega
 refine oA rfl (oZ ?_)
 by_cases hq:y.1.refs.length=z.1.refs.length
 ·refine tN (ax _ _ (sk fun b4 a4=>(sk fun b5 a5=>(wt (oS rfl (Yk.fieldAt H0 (vr (PQ c 0) rfl) (oS rfl (Yk.cell1 CJ rfl (vr (PQ c 2) rfl) (Ab g (show(msgC y)[2]? =some (y.2.refs:Value)from BF y)) (oS rfl (Yk.lenRG CJ (RG.of (hmr.keep hE) (vr y.2.refs rfl)) (oS rfl (Yk.fieldAt H0 (vr (PQ f 0) rfl) (oS rfl (Yk.cell1 CJ rfl (vr (PQ f 2) rfl) (Ab j (show(msgC z)[2]? =some (z.2.refs:Value)from BF z)) (oS rfl (Yk.lenRG CJ (RG.of (hnr.keep hE) (vr z.2.refs rfl)) (oS rfl (Yk.eqI (a:=((y.1.refs).length:Nat)) (b:=((z.1.refs).length:Nat)) rfl rfl (Ci _ _ _ _) (oZ (tN (a5 _ _ (Am (vr (.bool (false)) (congrArg Value.bool (decide_eq_false (fun h=>h hq)))) (Ak (tN (a4 _ _ ?_)))))))))))))))))))))))))
  refine sk fun b6 a6=>(sk fun b7 a7=>(wt (oA rfl (Bp [(0, .agg (msgC y).toArray),(1, .agg (msgC z).toArray),(2,PQ c 0),(3,PQ f 0),(4, .bool (false)),(5,NI 0),(12, .bool (false))] ⟨q,r,rfl,rfl,rfl,rfl,(congrArg Value.bool (decide_eq_false (fun h=>h hq))),trivial⟩ fun b8 ⟨q,r,n,o,T4,p,s,_⟩=>(tN (a7 _ _ (AA (Bu (fun(ρ:As) (wz:World)=>∃i:Nat,ρ 0=(.agg (msgC y).toArray:Value)∧ρ 1=(.agg (msgC z).toArray:Value)∧ρ 2=(PQ c 0:Value)∧ρ 3=(PQ f 0:Value)∧ρ 12=(.bool (false):Value)∧ρ 5=(NI i:Value)∧Ext w wz∧wz.heap[c]? =some (.cells (msgC y).toArray 29 (0,0))∧Ext w3 wz∧wz.heap[f]? =some (.cells (msgC z).toArray 29 (0,0))∧(i≤y.1.refs.length)∧(y.1.refs.take i=z.1.refs.take i)∧True) (fun ρ _=>y.1.refs.length-(intOf (ρ 5)).toNat) ⟨0,q,r,n,o,s,p,hE,g,t,j,Nat.zero_le _,(by simp),trivial⟩ ?_))))))))
  clear hE g t j
  rintro a8 b9 ⟨i,q,r,n,o,s,p,hE,g,t,j,hi,hn,-⟩
  have q5:=p
  by_cases hlt:i<y.1.refs.length
  ·by_cases q1:y.1.refs.getD i Ac=z.1.refs.getD i Ac
   ·refine sk fun ca a9=>(sk fun cb ba=>(wt (oM rfl (oS rfl (Yk.fieldAt H0 n (oS rfl (Yk.cell1 CJ rfl (vr (PQ c 2) rfl) (Ab g (show(msgC y)[2]? =some (y.2.refs:Value)from BF y)) (oS rfl (Yk.lenRG CJ (RG.of (hmr.keep hE) (vr y.2.refs rfl)) (oS rfl (Yk.eqI (a:=(i:Nat)) (b:=((y.1.refs).length:Nat)) p rfl (A0 _ _ _ _) (oZ (tN (ba _ _ (At (vr (.bool (true)) (congrArg Value.bool (decide_eq_true (hlt)))) (Ak (tN (a9 _ _ (sk fun cc bb=>(AA (sk fun cd bc=> ?_)))))))))))))))))))))
    refine A2 [Is (PQ c 2),Is (y.2.refs),Is (NI i),fun x w' =>PR (updC ((y.1.refs).getD (i) Ac)) x w',Is (.agg (updC ((y.1.refs).getD (i) Ac)).toArray),Is (PQ f 2),Is (z.2.refs),Is (NI i),fun x w' =>PR (updC ((z.1.refs).getD (i) Ac)) x w',Is (.agg (updC ((z.1.refs).getD (i) Ac)).toArray),Is (.bool (false))] (by kernel_rfl) [20,21,22,23,24,25,26,27,28,29,30] (by kernel_rfl) (by kernel_rfl) (Fc ⟨(fun _ _ _ h k=>PR.keep h k),(JG ⟨(fun _ _ _ h k=>PR.keep h k),(Db trivial)⟩)⟩) ?bd ?hQ1006
    case bd=>
     refine⟨?_,?_,?_,?_,?_,?_,?_,?_,?_,?_,?_,trivial⟩
     ·refine Aa rfl fun σ w1 hC h=> ?_
      have e2:=(Af (h 2 (by decide))).trans n
      exact Yk.fieldAt H0 e2 ⟨Ext.refl _,rfl⟩
     ·refine Aa rfl fun σ w1 hC h=> ?_
      have ag:=Af (h 20 (by decide))
      exact Yk.cell1 CJ rfl ag (Ab (eb hC g) (show(msgC y)[2]? =some (y.2.refs:Value)from BF y)) ⟨Ext.refl _,rfl⟩
     ·refine Aa rfl fun σ w1 hC h=> ?_
      have u:=(Af (h 5 (by decide))).trans p
      exact Yk.move u ⟨Ext.refl _,rfl⟩
     ·refine Aa rfl fun σ w1 hC h=> ?_
      have ah:=Af (h 21 (by decide))
      have ai:=Af (h 22 (by decide))
      exact Yk.atRG CJ Di (by decide) Ac (RG.of (hmr.keep (hE.trans hC)) ah) ai (by omega) fun v h=>⟨Ext.refl _,h⟩
     ·refine Aa rfl fun σ w1 hC h=> ?_
      have aj:(fun x w' =>PR (updC ((y.1.refs).getD (i) Ac)) x w') (σ 23) w1:=h 23 (by decide)
      exact Yk.loadPR aj (JV).choose_spec rfl (by rw[BH];exact Fl) ⟨Ext.refl _,rfl⟩
     ·refine Aa rfl fun σ w1 hC h=> ?_
      have e3:=(Af (h 3 (by decide))).trans o
      exact Yk.fieldAt H0 e3 ⟨Ext.refl _,rfl⟩
     ·refine Aa rfl fun σ w1 hC h=> ?_
      have al:=Af (h 25 (by decide))
      exact Yk.cell1 CJ rfl al (Ab (eb hC j) (show(msgC z)[2]? =some (z.2.refs:Value)from BF z)) ⟨Ext.refl _,rfl⟩
     ·refine Aa rfl fun σ w1 hC h=> ?_
      have u:=(Af (h 5 (by decide))).trans p
      exact Yk.move u ⟨Ext.refl _,rfl⟩
     ·refine Aa rfl fun σ w1 hC h=> ?_
      have am:=Af (h 26 (by decide))
      have an:=Af (h 27 (by decide))
      exact Yk.atRG CJ Di (by decide) Ac (RG.of (hnr.keep (hE.trans hC)) am) an (by omega) fun v h=>⟨Ext.refl _,h⟩
     ·refine Aa rfl fun σ w1 hC h=> ?_
      have ao:(fun x w' =>PR (updC ((z.1.refs).getD (i) Ac)) x w') (σ 28) w1:=h 28 (by decide)
      exact Yk.loadPR ao (JV).choose_spec rfl (by rw[BH];exact Fl) ⟨Ext.refl _,rfl⟩
     ·refine Aa rfl fun σ w1 hC h=> ?_
      have ap:=Af (h 24 (by decide))
      have aq:=Af (h 29 (by decide))
      exact Yk.neStr I5 ap aq (N4 _ ((y.1.refs).getD (i) Ac) ((z.1.refs).getD (i) Ac)) ⟨Ext.refl _,(congrArg Value.bool (by rw[decide_eq_true q1];rfl))⟩
    intro be ce ab he hf
    obtain⟨-,-,-,-,-,-,-,-,-,-,k30,-⟩:=hf
    obtain⟨q,r,n,o,p,s,ac,-⟩:=he.hold [(0,_),(1,_),(2,_),(3,_),(5,_),(12,_),(17,_)] ⟨q,r,n,o,p,s,(congrArg Value.bool (decide_eq_true (hlt))),trivial⟩ rfl
    clear he
    have hE:=hE.trans ab
    have g:=eb ab g
    have t:=t.trans ab
    have j:=eb ab j
    have aa:be 30 = .bool (false):=k30
    clear k30
    refine tN (bc _ _ (Am aa (Ak (bN (tN (bb _ _ (wt (oM rfl (oS rfl (Yk.bin (xv:=NI i) (yv:=NI 1) p rfl rfl (Be _ _ _ (by omega)) (oA rfl (Bp [(0, .agg (msgC y).toArray),(1, .agg (msgC z).toArray),(2,PQ c 0),(3,PQ f 0),(5,NI ((i)+(1))),(12, .bool (false)),(17, .bool (true)),(30, .bool (false))] ⟨q,r,n,o,rfl,s,ac,aa,trivial⟩ fun bf ⟨q,r,n,o,p,s,ac,aa,_⟩=>(tN (And.intro ⟨i+1,q,r,n,o,s,p,hE,g,t,j,by omega,IO hlt (by omega) hn q1,trivial⟩ ?_))))))))))))))
    show y.1.refs.length-(intOf (bf 5)).toNat<y.1.refs.length-(intOf (a8 5)).toNat
    rw[p,q5]
    simp only[intOf,Int.toNat_natCast];omega
   refine sk fun cf bg=>(sk fun cg bh=>(wt (oM rfl (oS rfl (Yk.fieldAt H0 n (oS rfl (Yk.cell1 CJ rfl (vr (PQ c 2) rfl) (Ab g (show(msgC y)[2]? =some (y.2.refs:Value)from BF y)) (oS rfl (Yk.lenRG CJ (RG.of (hmr.keep hE) (vr y.2.refs rfl)) (oS rfl (Yk.eqI (a:=(i:Nat)) (b:=((y.1.refs).length:Nat)) p rfl (A0 _ _ _ _) (oZ (tN (bh _ _ (At (vr (.bool (true)) (congrArg Value.bool (decide_eq_true (hlt)))) (Ak (tN (bg _ _ (sk fun ch ci=>(AA (sk fun cj bi=> ?_)))))))))))))))))))))
   refine A2 [Is (PQ c 2),Is (y.2.refs),Is (NI i),fun x w' =>PR (updC ((y.1.refs).getD (i) Ac)) x w',Is (.agg (updC ((y.1.refs).getD (i) Ac)).toArray),Is (PQ f 2),Is (z.2.refs),Is (NI i),fun x w' =>PR (updC ((z.1.refs).getD (i) Ac)) x w',Is (.agg (updC ((z.1.refs).getD (i) Ac)).toArray),Is (.bool (true))] (by kernel_rfl) [20,21,22,23,24,25,26,27,28,29,30] (by kernel_rfl) (by kernel_rfl) (Fc ⟨(fun _ _ _ h k=>PR.keep h k),(JG ⟨(fun _ _ _ h k=>PR.keep h k),(Db trivial)⟩)⟩) ?bj ?hQ2006
   case bj=>
    refine⟨?_,?_,?_,?_,?_,?_,?_,?_,?_,?_,?_,trivial⟩
    ·refine Aa rfl fun σ w1 hC h=> ?_
     have e2:=(Af (h 2 (by decide))).trans n
     exact Yk.fieldAt H0 e2 ⟨Ext.refl _,rfl⟩
    ·refine Aa rfl fun σ w1 hC h=> ?_
     have ag:=Af (h 20 (by decide))
     exact Yk.cell1 CJ rfl ag (Ab (eb hC g) (show(msgC y)[2]? =some (y.2.refs:Value)from BF y)) ⟨Ext.refl _,rfl⟩
    ·refine Aa rfl fun σ w1 hC h=> ?_
     have u:=(Af (h 5 (by decide))).trans p
     exact Yk.move u ⟨Ext.refl _,rfl⟩
    ·refine Aa rfl fun σ w1 hC h=> ?_
     have ah:=Af (h 21 (by decide))
     have ai:=Af (h 22 (by decide))
     exact Yk.atRG CJ Di (by decide) Ac (RG.of (hmr.keep (hE.trans hC)) ah) ai (by omega) fun v h=>⟨Ext.refl _,h⟩
    ·refine Aa rfl fun σ w1 hC h=> ?_
     have aj:(fun x w' =>PR (updC ((y.1.refs).getD (i) Ac)) x w') (σ 23) w1:=h 23 (by decide)
     exact Yk.loadPR aj (JV).choose_spec rfl (by rw[BH];exact Fl) ⟨Ext.refl _,rfl⟩
    ·refine Aa rfl fun σ w1 hC h=> ?_
     have e3:=(Af (h 3 (by decide))).trans o
     exact Yk.fieldAt H0 e3 ⟨Ext.refl _,rfl⟩
    ·refine Aa rfl fun σ w1 hC h=> ?_
     have al:=Af (h 25 (by decide))
     exact Yk.cell1 CJ rfl al (Ab (eb hC j) (show(msgC z)[2]? =some (z.2.refs:Value)from BF z)) ⟨Ext.refl _,rfl⟩
    ·refine Aa rfl fun σ w1 hC h=> ?_
     have u:=(Af (h 5 (by decide))).trans p
     exact Yk.move u ⟨Ext.refl _,rfl⟩
    ·refine Aa rfl fun σ w1 hC h=> ?_
     have am:=Af (h 26 (by decide))
     have an:=Af (h 27 (by decide))
     exact Yk.atRG CJ Di (by decide) Ac (RG.of (hnr.keep (hE.trans hC)) am) an (by omega) fun v h=>⟨Ext.refl _,h⟩
    ·refine Aa rfl fun σ w1 hC h=> ?_
     have ao:(fun x w' =>PR (updC ((z.1.refs).getD (i) Ac)) x w') (σ 28) w1:=h 28 (by decide)
     exact Yk.loadPR ao (JV).choose_spec rfl (by rw[BH];exact Fl) ⟨Ext.refl _,rfl⟩
    ·refine Aa rfl fun σ w1 hC h=> ?_
     have ap:=Af (h 24 (by decide))
     have aq:=Af (h 29 (by decide))
     exact Yk.neStr I5 ap aq (N4 _ ((y.1.refs).getD (i) Ac) ((z.1.refs).getD (i) Ac)) ⟨Ext.refl _,(congrArg Value.bool (by rw[decide_eq_false q1];rfl))⟩
   intro bk ck ar he hf
   obtain⟨-,-,-,-,-,-,-,-,-,-,k30,-⟩:=hf
   obtain⟨q,r,n,o,p,s,ac,-⟩:=he.hold [(0,_),(1,_),(2,_),(3,_),(5,_),(12,_),(17,_)] ⟨q,r,n,o,p,s,(congrArg Value.bool (decide_eq_true (hlt))),trivial⟩ rfl
   clear he
   have hE:=hE.trans ar
   have g:=eb ar g
   have j:=eb ar j
   have aa:bk 30 = .bool (true):=k30
   clear k30
   refine tN (bi _ _ (At aa (sk fun cl bm=>(wt (oA rfl (oZ (tN (bm _ _ (Ao (AM (Ap (Ap (AM (Ap (An (fn:=Tryd.f24) _ rfl [.bool (false)] (.bool (false)) rfl ⟨rfl,trivial⟩ ?_)))))))))))))))
   exact⟨by rw[Ie (Lb q1)],hE⟩
  refine sk fun cm cn=>(sk fun co bn=>(wt (oM rfl (oS rfl (Yk.fieldAt H0 n (oS rfl (Yk.cell1 CJ rfl (vr (PQ c 2) rfl) (Ab g (show(msgC y)[2]? =some (y.2.refs:Value)from BF y)) (oS rfl (Yk.lenRG CJ (RG.of (hmr.keep hE) (vr y.2.refs rfl)) (oS rfl (Yk.eqI (a:=(i:Nat)) (b:=((y.1.refs).length:Nat)) p rfl (A0 _ _ _ _) (oZ (tN (bn _ _ (Am (vr (.bool (false)) (congrArg Value.bool (decide_eq_false (hlt)))) (Bm (Ax (Ax (AS (tN (a6 _ _ (sk fun cp bo=>(wt (oS rfl (Yk.fieldAt H8 n ?_)))))))))))))))))))))))))
  refine oS rfl (Yk.cell1 u5 rfl (vr (PQ c 0) rfl) (Ab g (show(msgC y)[0]? =some (B8 (y.1.kind):Value)from Bv y)) (oS rfl (Yk.fieldAt H8 o (oS rfl (Yk.cell1 u5 rfl (vr (PQ f 0) rfl) (Ab j (show(msgC z)[0]? =some (B8 (z.1.kind):Value)from Bv z)) (oS rfl (Yk.eqI (a:=((y.1.kind).toNat:Nat)) (b:=((z.1.kind).toNat:Nat)) rfl rfl (k_eql _ _ _ _) (oM rfl (Ad (PQ c 1) rfl rfl (gT (vr (.bool (decide (((y.1.kind).toNat:Nat)=((z.1.kind).toNat)))) rfl)) (fun hG48=>Yk.fieldAt LK n ⟨rfl,rfl⟩) (Ad (.int .i64 (y.1.session:Int)) rfl rfl (gT (vr (.bool (decide (((y.1.kind).toNat:Nat)=((z.1.kind).toNat)))) rfl)) (fun hG49=>Yk.cell1 FI rfl (mayT (vr (cond ((decide (((y.1.kind).toNat:Nat)=((z.1.kind).toNat)))) (PQ c 1) undef) rfl) hG49) (Ab g (show(msgC y)[1]? =some (.int .i64 (y.1.session:Int):Value)from CU y)) ⟨rfl,rfl⟩) (Ad (PQ f 1) rfl rfl (gT (vr (.bool (decide (((y.1.kind).toNat:Nat)=((z.1.kind).toNat)))) rfl)) (fun hG50=>Yk.fieldAt LK o ⟨rfl,rfl⟩) (Ad (.int .i64 (z.1.session:Int)) rfl rfl (gT (vr (.bool (decide (((y.1.kind).toNat:Nat)=((z.1.kind).toNat)))) rfl)) (fun hG51=>Yk.cell1 FI rfl (mayT (vr (cond ((decide (((y.1.kind).toNat:Nat)=((z.1.kind).toNat)))) (PQ f 1) undef) rfl) hG51) (Ab j (show(msgC z)[1]? =some (.int .i64 (z.1.session:Int):Value)from CU z)) ⟨rfl,rfl⟩) (Ad (.bool (decide ((y.1.session:Int)=(z.1.session:Int)))) rfl rfl (gT (vr (.bool (decide (((y.1.kind).toNat:Nat)=((z.1.kind).toNat)))) rfl)) (fun hG52=>Yk.eqI (mayT (vr (cond ((decide (((y.1.kind).toNat:Nat)=((z.1.kind).toNat)))) (.int .i64 (y.1.session:Int)) undef) rfl) hG52) (mayT (vr (cond ((decide (((y.1.kind).toNat:Nat)=((z.1.kind).toNat)))) (.int .i64 (z.1.session:Int)) undef) rfl) hG52) (FN _ .i64 (y.1.session:Int) (z.1.session:Int)) ⟨rfl,rfl⟩) (oS rfl (Yk.pickAndN (vr (.bool (decide (((y.1.kind).toNat:Nat)=((z.1.kind).toNat)))) rfl) (fun hA=>(mayT (vr (cond ((decide (((y.1.kind).toNat:Nat)=((z.1.kind).toNat)))) (.bool (decide ((y.1.session:Int)=(z.1.session:Int)))) undef) rfl) hA)) (vr (.bool (false)) rfl) fun bb53 hbb54=>(oM rfl (Ad (PQ c 3) rfl rfl (gT (vr (.bool (bb53)) rfl)) (fun hG55=>Yk.fieldAt H1 n ⟨rfl,rfl⟩) (Ad (y.2.wants) rfl rfl (gT (vr (.bool (bb53)) rfl)) (fun hG56=>Yk.cell1 Bw rfl (mayT (vr (cond (bb53) (PQ c 3) undef) rfl) hG56) (Ab g (show(msgC y)[3]? =some (y.2.wants:Value)from DE y)) ⟨rfl,rfl⟩) (Ad (PQ f 3) rfl rfl (gT (vr (.bool (bb53)) rfl)) (fun hG57=>Yk.fieldAt H1 o ⟨rfl,rfl⟩) (Ad (z.2.wants) rfl rfl (gT (vr (.bool (bb53)) rfl)) (fun hG58=>Yk.cell1 Bw rfl (mayT (vr (cond (bb53) (PQ f 3) undef) rfl) hG58) (Ab j (show(msgC z)[3]? =some (z.2.wants:Value)from DE z)) ⟨rfl,rfl⟩) ?_))))))))))))))))))))
  refine Bd (.bool (decide (y.1.wants=z.1.wants))) rfl rfl (gT (vr (.bool (bb53)) rfl)) (fun hG59=>Yk.callA2 I6 (mayT (vr (cond (bb53) (y.2.wants) undef) rfl) hG59) (mayT (vr (cond (bb53) (z.2.wants) undef) rfl) hG59) ((refSame_any _ y.2.wants z.2.wants y.1.wants z.1.wants (hmw.keep hE) (hnw.keep hE) (by omega)).mono (by rintro e w2 ⟨rfl,hx⟩;exact⟨_,rfl,rfl,hx⟩))) fun cq au=> ?_
  have hE:=hE.trans au
  have g:=eb au g
  have j:=eb au j
  refine oS rfl (Yk.pickAndN (vr (.bool (bb53)) rfl) (fun hA=>(mayT (vr (cond (bb53) (.bool (decide (y.1.wants=z.1.wants))) undef) rfl) hA)) (vr (.bool (false)) rfl) fun bb63 hbb64=>(oM rfl (Ad (PQ c 4) rfl rfl (gT (vr (.bool (bb63)) rfl)) (fun hG65=>Yk.fieldAt H2 n ⟨rfl,rfl⟩) (Ad (y.2.haves) rfl rfl (gT (vr (.bool (bb63)) rfl)) (fun hG66=>Yk.cell1 Bw rfl (mayT (vr (cond (bb63) (PQ c 4) undef) rfl) hG66) (Ab g (show(msgC y)[4]? =some (y.2.haves:Value)from DF y)) ⟨rfl,rfl⟩) (Ad (PQ f 4) rfl rfl (gT (vr (.bool (bb63)) rfl)) (fun hG67=>Yk.fieldAt H2 o ⟨rfl,rfl⟩) (Ad (z.2.haves) rfl rfl (gT (vr (.bool (bb63)) rfl)) (fun hG68=>Yk.cell1 Bw rfl (mayT (vr (cond (bb63) (PQ f 4) undef) rfl) hG68) (Ab j (show(msgC z)[4]? =some (z.2.haves:Value)from DF z)) ⟨rfl,rfl⟩) (Bd (.bool (decide (y.1.haves=z.1.haves))) rfl rfl (gT (vr (.bool (bb63)) rfl)) (fun hG69=>Yk.callA2 I6 (mayT (vr (cond (bb63) (y.2.haves) undef) rfl) hG69) (mayT (vr (cond (bb63) (z.2.haves) undef) rfl) hG69) ((refSame_any _ y.2.haves z.2.haves y.1.haves z.1.haves (hmh.keep hE) (hnh.keep hE) (by omega)).mono (by rintro e w2 ⟨rfl,hx⟩;exact⟨_,rfl,rfl,hx⟩))) fun cr av=> ?_)))))))
  have hE:=hE.trans av
  have g:=eb av g
  have j:=eb av j
  refine oS rfl (Yk.pickAndN (vr (.bool (bb63)) rfl) (fun hA=>(mayT (vr (cond (bb63) (.bool (decide (y.1.haves=z.1.haves))) undef) rfl) hA)) (vr (.bool (false)) rfl) fun bb73 hbb74=>(oM rfl (Ad (PQ c 5) rfl rfl (gT (vr (.bool (bb73)) rfl)) (fun hG75=>Yk.fieldAt H3 n ⟨rfl,rfl⟩) (Ad (.int .i64 (y.1.size:Int)) rfl rfl (gT (vr (.bool (bb73)) rfl)) (fun hG76=>Yk.cell1 FI rfl (mayT (vr (cond (bb73) (PQ c 5) undef) rfl) hG76) (Ab g (show(msgC y)[5]? =some (.int .i64 (y.1.size:Int):Value)from Dq y)) ⟨rfl,rfl⟩) (Ad (PQ f 5) rfl rfl (gT (vr (.bool (bb73)) rfl)) (fun hG77=>Yk.fieldAt H3 o ⟨rfl,rfl⟩) (Ad (.int .i64 (z.1.size:Int)) rfl rfl (gT (vr (.bool (bb73)) rfl)) (fun hG78=>Yk.cell1 FI rfl (mayT (vr (cond (bb73) (PQ f 5) undef) rfl) hG78) (Ab j (show(msgC z)[5]? =some (.int .i64 (z.1.size:Int):Value)from Dq z)) ⟨rfl,rfl⟩) (Ad (.bool (decide ((y.1.size:Int)=(z.1.size:Int)))) rfl rfl (gT (vr (.bool (bb73)) rfl)) (fun hG79=>Yk.eqI (mayT (vr (cond (bb73) (.int .i64 (y.1.size:Int)) undef) rfl) hG79) (mayT (vr (cond (bb73) (.int .i64 (z.1.size:Int)) undef) rfl) hG79) (FN _ .i64 (y.1.size:Int) (z.1.size:Int)) ⟨rfl,rfl⟩) (oS rfl (Yk.pickAndN (vr (.bool (bb73)) rfl) (fun hA=>(mayT (vr (cond (bb73) (.bool (decide ((y.1.size:Int)=(z.1.size:Int)))) undef) rfl) hA)) (vr (.bool (false)) rfl) fun bb80 hbb81=>(oM rfl (Ad (PQ c 6) rfl rfl (gT (vr (.bool (bb80)) rfl)) (fun hG82=>Yk.fieldAt H4 n ⟨rfl,rfl⟩) (Ad (.int .i64 (y.1.at_:Int)) rfl rfl (gT (vr (.bool (bb80)) rfl)) (fun hG83=>Yk.cell1 FI rfl (mayT (vr (cond (bb80) (PQ c 6) undef) rfl) hG83) (Ab g (show(msgC y)[6]? =some (.int .i64 (y.1.at_:Int):Value)from Dr y)) ⟨rfl,rfl⟩) (Ad (PQ f 6) rfl rfl (gT (vr (.bool (bb80)) rfl)) (fun hG84=>Yk.fieldAt H4 o ⟨rfl,rfl⟩) (Ad (.int .i64 (z.1.at_:Int)) rfl rfl (gT (vr (.bool (bb80)) rfl)) (fun hG85=>Yk.cell1 FI rfl (mayT (vr (cond (bb80) (PQ f 6) undef) rfl) hG85) (Ab j (show(msgC z)[6]? =some (.int .i64 (z.1.at_:Int):Value)from Dr z)) ⟨rfl,rfl⟩) (Ad (.bool (decide ((y.1.at_:Int)=(z.1.at_:Int)))) rfl rfl (gT (vr (.bool (bb80)) rfl)) (fun hG86=>Yk.eqI (mayT (vr (cond (bb80) (.int .i64 (y.1.at_:Int)) undef) rfl) hG86) (mayT (vr (cond (bb80) (.int .i64 (z.1.at_:Int)) undef) rfl) hG86) (FN _ .i64 (y.1.at_:Int) (z.1.at_:Int)) ⟨rfl,rfl⟩) (oS rfl (Yk.pickAndN (vr (.bool (bb80)) rfl) (fun hA=>(mayT (vr (cond (bb80) (.bool (decide ((y.1.at_:Int)=(z.1.at_:Int)))) undef) rfl) hA)) (vr (.bool (false)) rfl) fun bb87 hbb88=>(oM rfl ?_))))))))))))))))))
  refine Ad (PQ c 7) rfl rfl (gT (vr (.bool (bb87)) rfl)) (fun hG89=>Yk.fieldAt LI n ⟨rfl,rfl⟩) (Ad (AB y.1.id.1) rfl rfl (gT (vr (.bool (bb87)) rfl)) (fun hG90=>Yk.loadPR (PR.blk g (CM y) (CV y) (mayT (vr (cond (bb87) (PQ c 7) undef) rfl) hG90)) NV rfl (Aw y.1.id.2) ⟨rfl,rfl⟩) (Ad (PQ f 7) rfl rfl (gT (vr (.bool (bb87)) rfl)) (fun hG91=>Yk.fieldAt LI o ⟨rfl,rfl⟩) (Ad (AB z.1.id.1) rfl rfl (gT (vr (.bool (bb87)) rfl)) (fun hG92=>Yk.loadPR (PR.blk j (CM z) (CV z) (mayT (vr (cond (bb87) (PQ f 7) undef) rfl) hG92)) NV rfl (Aw z.1.id.2) ⟨rfl,rfl⟩) (Ad (.bool (decide (y.1.id.1=z.1.id.1))) rfl rfl (gT (vr (.bool (bb87)) rfl)) (fun hG93=>Yk.eqArr (l1:=y.1.id.1) (l2:=z.1.id.1) NV u5 Lt FP (mayT (vr (cond (bb87) (AB y.1.id.1) undef) rfl) hG93) (mayT (vr (cond (bb87) (AB z.1.id.1) undef) rfl) hG93) (y.1.id.2) (z.1.id.2) ⟨rfl,rfl⟩) (oS rfl (Yk.pickAndN (vr (.bool (bb87)) rfl) (fun hA=>(mayT (vr (cond (bb87) (.bool (decide (y.1.id.1=z.1.id.1))) undef) rfl) hA)) (vr (.bool (false)) rfl) fun bb94 hbb95=>(oM rfl (Ad (PQ c 39) rfl rfl (gT (vr (.bool (bb94)) rfl)) (fun hG96=>Yk.fieldAt FT n ⟨rfl,rfl⟩) (Ad (y.2.bytes) rfl rfl (gT (vr (.bool (bb94)) rfl)) (fun hG97=>Yk.cell1 El rfl (mayT (vr (cond (bb94) (PQ c 39) undef) rfl) hG97) (Ab g (show(msgC y)[39]? =some (y.2.bytes:Value)from Ds y)) ⟨rfl,rfl⟩) (Ad (St (y.1.bytes)) rfl rfl (gT (vr (.bool (bb94)) rfl)) (fun hG98=>Yk.convRB El u5 CD (RB.of (hmb.keep hE) (mayT (vr (cond (bb94) (y.2.bytes) undef) rfl) hG98)) ⟨rfl,rfl⟩) (Ad (PQ f 39) rfl rfl (gT (vr (.bool (bb94)) rfl)) (fun hG99=>Yk.fieldAt FT o ⟨rfl,rfl⟩) (Ad (z.2.bytes) rfl rfl (gT (vr (.bool (bb94)) rfl)) (fun hG100=>Yk.cell1 El rfl (mayT (vr (cond (bb94) (PQ f 39) undef) rfl) hG100) (Ab j (show(msgC z)[39]? =some (z.2.bytes:Value)from Ds z)) ⟨rfl,rfl⟩) (Ad (St (z.1.bytes)) rfl rfl (gT (vr (.bool (bb94)) rfl)) (fun hG101=>Yk.convRB El u5 CD (RB.of (hnb.keep hE) (mayT (vr (cond (bb94) (z.2.bytes) undef) rfl) hG101)) ⟨rfl,rfl⟩) (Ad (.bool (decide ((y.1.bytes:List UInt8)=(z.1.bytes:List UInt8)))) rfl rfl (gT (vr (.bool (bb94)) rfl)) (fun hG102=>Yk.eqSt (l:=y.1.bytes) (m:=z.1.bytes) (.inl rfl) (mayT (vr (cond (bb94) (St (y.1.bytes)) undef) rfl) hG102) (mayT (vr (cond (bb94) (St (z.1.bytes)) undef) rfl) hG102) (decide ((y.1.bytes:List UInt8)=(z.1.bytes:List UInt8))) rfl ⟨rfl,rfl⟩) (oS rfl (Yk.pickAndN (vr (.bool (bb94)) rfl) (fun hA=>(mayT (vr (cond (bb94) (.bool (decide ((y.1.bytes:List UInt8)=(z.1.bytes:List UInt8)))) undef) rfl) hA)) (vr (.bool (false)) rfl) fun bb103 hbb104=>(oM rfl ?_)))))))))))))))))
  refine Ad (PQ c 40) rfl rfl (gT (vr (.bool (bb103)) rfl)) (fun hG105=>Yk.fieldAt H7 n ⟨rfl,rfl⟩) (Ad (St (y.1.name)) rfl rfl (gT (vr (.bool (bb103)) rfl)) (fun hG106=>Yk.cell1 CD rfl (mayT (vr (cond (bb103) (PQ c 40) undef) rfl) hG106) (Ab g (show(msgC y)[40]? =some (St (y.1.name):Value)from Ee y)) ⟨rfl,rfl⟩) (Ad (PQ f 40) rfl rfl (gT (vr (.bool (bb103)) rfl)) (fun hG107=>Yk.fieldAt H7 o ⟨rfl,rfl⟩) (Ad (St (z.1.name)) rfl rfl (gT (vr (.bool (bb103)) rfl)) (fun hG108=>Yk.cell1 CD rfl (mayT (vr (cond (bb103) (PQ f 40) undef) rfl) hG108) (Ab j (show(msgC z)[40]? =some (St (z.1.name):Value)from Ee z)) ⟨rfl,rfl⟩) (Ad (.bool (decide ((y.1.name:List UInt8)=(z.1.name:List UInt8)))) rfl rfl (gT (vr (.bool (bb103)) rfl)) (fun hG109=>Yk.eqSt (l:=y.1.name) (m:=z.1.name) (.inl rfl) (mayT (vr (cond (bb103) (St (y.1.name)) undef) rfl) hG109) (mayT (vr (cond (bb103) (St (z.1.name)) undef) rfl) hG109) (decide ((y.1.name:List UInt8)=(z.1.name:List UInt8))) rfl ⟨rfl,rfl⟩) (oS rfl (Yk.pickAndN (vr (.bool (bb103)) rfl) (fun hA=>(mayT (vr (cond (bb103) (.bool (decide ((y.1.name:List UInt8)=(z.1.name:List UInt8)))) undef) rfl) hA)) (vr (.bool (false)) rfl) fun bb110 hbb111=>(oM rfl (Ad (PQ c 41) rfl rfl (gT (vr (.bool (bb110)) rfl)) (fun hG112=>Yk.fieldAt KF n ⟨rfl,rfl⟩) (Ad (AB y.1.old.1) rfl rfl (gT (vr (.bool (bb110)) rfl)) (fun hG113=>Yk.loadPR (PR.blk g (Dz y) (DP y) (mayT (vr (cond (bb110) (PQ c 41) undef) rfl) hG113)) NV rfl (Aw y.1.old.2) ⟨rfl,rfl⟩) (Ad (PQ f 41) rfl rfl (gT (vr (.bool (bb110)) rfl)) (fun hG114=>Yk.fieldAt KF o ⟨rfl,rfl⟩) (Ad (AB z.1.old.1) rfl rfl (gT (vr (.bool (bb110)) rfl)) (fun hG115=>Yk.loadPR (PR.blk j (Dz z) (DP z) (mayT (vr (cond (bb110) (PQ f 41) undef) rfl) hG115)) NV rfl (Aw z.1.old.2) ⟨rfl,rfl⟩) (Ad (.bool (decide (y.1.old.1=z.1.old.1))) rfl rfl (gT (vr (.bool (bb110)) rfl)) (fun hG116=>Yk.eqArr (l1:=y.1.old.1) (l2:=z.1.old.1) NV u5 Lt FP (mayT (vr (cond (bb110) (AB y.1.old.1) undef) rfl) hG116) (mayT (vr (cond (bb110) (AB z.1.old.1) undef) rfl) hG116) (y.1.old.2) (z.1.old.2) ⟨rfl,rfl⟩) (oS rfl (Yk.pickAndN (vr (.bool (bb110)) rfl) (fun hA=>(mayT (vr (cond (bb110) (.bool (decide (y.1.old.1=z.1.old.1))) undef) rfl) hA)) (vr (.bool (false)) rfl) fun bb117 hbb118=>(oM rfl (Ad (PQ c 73) rfl rfl (gT (vr (.bool (bb117)) rfl)) (fun hG119=>Yk.fieldAt G8 n ⟨rfl,rfl⟩) (Ad (AB y.1.new.1) rfl rfl (gT (vr (.bool (bb117)) rfl)) (fun hG120=>Yk.loadPR (PR.blk g (C1 y) (Dd y) (mayT (vr (cond (bb117) (PQ c 73) undef) rfl) hG120)) NV rfl (Aw y.1.new.2) ⟨rfl,rfl⟩) ?_)))))))))))))))))
  refine Ad (PQ f 73) rfl rfl (gT (vr (.bool (bb117)) rfl)) (fun hG121=>Yk.fieldAt G8 o ⟨rfl,rfl⟩) (Ad (AB z.1.new.1) rfl rfl (gT (vr (.bool (bb117)) rfl)) (fun hG122=>Yk.loadPR (PR.blk j (C1 z) (Dd z) (mayT (vr (cond (bb117) (PQ f 73) undef) rfl) hG122)) NV rfl (Aw z.1.new.2) ⟨rfl,rfl⟩) (Ad (.bool (decide (y.1.new.1=z.1.new.1))) rfl rfl (gT (vr (.bool (bb117)) rfl)) (fun hG123=>Yk.eqArr (l1:=y.1.new.1) (l2:=z.1.new.1) NV u5 Lt FP (mayT (vr (cond (bb117) (AB y.1.new.1) undef) rfl) hG123) (mayT (vr (cond (bb117) (AB z.1.new.1) undef) rfl) hG123) (y.1.new.2) (z.1.new.2) ⟨rfl,rfl⟩) (oS rfl (Yk.pickAndN (vr (.bool (bb117)) rfl) (fun hA=>(mayT (vr (cond (bb117) (.bool (decide (y.1.new.1=z.1.new.1))) undef) rfl) hA)) (vr (.bool (false)) rfl) fun bb124 hbb125=>(oM rfl (Ad (PQ c 105) rfl rfl (gT (vr (.bool (bb124)) rfl)) (fun hG126=>Yk.fieldAt KG n ⟨rfl,rfl⟩) (Ad (.bool (y.1.force)) rfl rfl (gT (vr (.bool (bb124)) rfl)) (fun hG127=>Yk.cell1 De rfl (mayT (vr (cond (bb124) (PQ c 105) undef) rfl) hG127) (Ab g (show(msgC y)[105]? =some (.bool (y.1.force):Value)from ET y)) ⟨rfl,rfl⟩) (Ad (PQ f 105) rfl rfl (gT (vr (.bool (bb124)) rfl)) (fun hG128=>Yk.fieldAt KG o ⟨rfl,rfl⟩) (Ad (.bool (z.1.force)) rfl rfl (gT (vr (.bool (bb124)) rfl)) (fun hG129=>Yk.cell1 De rfl (mayT (vr (cond (bb124) (PQ f 105) undef) rfl) hG129) (Ab j (show(msgC z)[105]? =some (.bool (z.1.force):Value)from ET z)) ⟨rfl,rfl⟩) (Ad (.bool ((y.1.force)==(z.1.force))) rfl rfl (gT (vr (.bool (bb124)) rfl)) (fun hG130=>Yk.eqBool (a:=y.1.force) (b:=z.1.force) De (mayT (vr (cond (bb124) (.bool (y.1.force)) undef) rfl) hG130) (mayT (vr (cond (bb124) (.bool (z.1.force)) undef) rfl) hG130) ⟨rfl,rfl⟩) (oS rfl (Yk.pickAndN (vr (.bool (bb124)) rfl) (fun hA=>(mayT (vr (cond (bb124) (.bool ((y.1.force)==(z.1.force))) undef) rfl) hA)) (vr (.bool (false)) rfl) fun bb131 hbb132=>(oM rfl (Ad (PQ c 106) rfl rfl (gT (vr (.bool (bb131)) rfl)) (fun hG133=>Yk.fieldAt G9 n ⟨rfl,rfl⟩) (Ad (.int .i64 (y.1.code:Int)) rfl rfl (gT (vr (.bool (bb131)) rfl)) (fun hG134=>Yk.cell1 J1 rfl (mayT (vr (cond (bb131) (PQ c 106) undef) rfl) hG134) (Ab g (show(msgC y)[106]? =some (.int .i64 (y.1.code:Int):Value)from DQ y)) ⟨rfl,rfl⟩) (Ad (PQ f 106) rfl rfl (gT (vr (.bool (bb131)) rfl)) (fun hG135=>Yk.fieldAt G9 o ⟨rfl,rfl⟩) (Ad (.int .i64 (z.1.code:Int)) rfl rfl (gT (vr (.bool (bb131)) rfl)) (fun hG136=>Yk.cell1 J1 rfl (mayT (vr (cond (bb131) (PQ f 106) undef) rfl) hG136) (Ab j (show(msgC z)[106]? =some (.int .i64 (z.1.code:Int):Value)from DQ z)) ⟨rfl,rfl⟩) ?_)))))))))))))))))
  refine Ad (.bool (decide ((y.1.code:Int)=(z.1.code:Int)))) rfl rfl (gT (vr (.bool (bb131)) rfl)) (fun hG137=>Yk.eqI (mayT (vr (cond (bb131) (.int .i64 (y.1.code:Int)) undef) rfl) hG137) (mayT (vr (cond (bb131) (.int .i64 (z.1.code:Int)) undef) rfl) hG137) (FN _ .i64 (y.1.code:Int) (z.1.code:Int)) ⟨rfl,rfl⟩) (oS rfl (Yk.pickAndN (vr (.bool (bb131)) rfl) (fun hA=>(mayT (vr (cond (bb131) (.bool (decide ((y.1.code:Int)=(z.1.code:Int)))) undef) rfl) hA)) (vr (.bool (false)) rfl) fun bb138 hbb139=>(oA rfl (Bp [(0, .agg (msgC y).toArray),(1, .agg (msgC z).toArray),(2,PQ c 0),(3,PQ f 0),(4, .bool (bb138)),(5,NI i),(12, .bool (false)),(17, .bool (false))] ⟨q,r,n,o,rfl,p,s,(congrArg Value.bool (decide_eq_false (hlt))),trivial⟩ fun ct ⟨q,r,n,o,T4,p,s,ac,_⟩=>(tN (bo _ _ (Ao (An (fn:=Tryd.f24) _ rfl [.bool (bb138)] (.bool (bb138)) rfl ⟨T4,trivial⟩ ?_))))))))
  subst hbb54 hbb64 hbb74 hbb81 hbb88 hbb95 hbb104 hbb111 hbb118 hbb125 hbb132 hbb139
  rw[show i=y.1.refs.length by omega,List.take_length,show y.1.refs.length=z.1.refs.length by omega,List.take_length]at hn
  exact⟨by rw[←KQ hn];rfl,hE⟩
 refine tN (ax _ _ (sk fun cu cv=>(sk fun cw bq=>(wt (oS rfl (Yk.fieldAt H0 (vr (PQ c 0) rfl) (oS rfl (Yk.cell1 CJ rfl (vr (PQ c 2) rfl) (Ab g (show(msgC y)[2]? =some (y.2.refs:Value)from BF y)) (oS rfl (Yk.lenRG CJ (RG.of (hmr.keep hE) (vr y.2.refs rfl)) (oS rfl (Yk.fieldAt H0 (vr (PQ f 0) rfl) (oS rfl (Yk.cell1 CJ rfl (vr (PQ f 2) rfl) (Ab j (show(msgC z)[2]? =some (z.2.refs:Value)from BF z)) (oS rfl (Yk.lenRG CJ (RG.of (hnr.keep hE) (vr z.2.refs rfl)) (oS rfl (Yk.eqI (a:=((y.1.refs).length:Nat)) (b:=((z.1.refs).length:Nat)) rfl rfl (Ci _ _ _ _) (oZ (tN (bq _ _ (At (vr (.bool (true)) (congrArg Value.bool (decide_eq_true (hq)))) (sk fun cx br=>(wt ?_))))))))))))))))))))))))
 refine oA rfl (oZ (tN (br _ _ (Ao (Ap (An (fn:=Tryd.f24) _ rfl [.bool (false)] (.bool (false)) rfl ⟨rfl,trivial⟩ ?_))))))
 exact⟨by rw[Ie (fun e=>hq (by rw[e]))],hE⟩

theorem GT(w:World):
  Calls Tryd.prog 21 #[] w fun e w' =>e = .returned (.bool true)∧Ext w w' :=by
 refine calls_of_wpF (args:= []) Tryd.func21 rfl 49 rfl (Nat.le_of_ble_eq_true rfl) ?_
 intro an hb
 clear hb
 have hE:=Ext.refl w
 refine sk fun K1 y=>(wt (oA rfl (oZ (tN (y _ _ (sk fun K2 z=>(wt (oS rfl (Yk.build2 (vr (B8 (1)) rfl) (vr (NI 5) rfl) (fun w=>Ju 1 ((5:Nat):Int) w) (oS rfl (Yk.callA1 I7 (vr (.agg (msgC ((⟨1,((5:Nat):Int),[],[],[],0,0,zid,[],[],zid,zid,false,0⟩,⟨(Value.slice none 0 0),(Value.slice none 0 0),(Value.slice none 0 0),(Value.slice none 0 0)⟩):Ah)).toArray) rfl) ((Ko (X:=((⟨1,((5:Nat):Int),[],[],[],0,0,zid,[],[],zid,zid,false,0⟩,⟨(Value.slice none 0 0),(Value.slice none 0 0),(Value.slice none 0 0),(Value.slice none 0 0)⟩):Ah)) rfl rfl ⟨rfl,rfl,rfl,rfl,rfl⟩ NL OP).mono ?_))))))))))))
 rintro e w6 ⟨h,rfl,j,aa⟩
 refine⟨_,rfl,?_⟩
 have hE:=hE.trans aa
 refine oM rfl (oS rfl (Yk.extract (vs:= [h,NI 0]) (vr (.tuple #[h,NI 0]) rfl) (show _=some (h:Value)from rfl) (oS rfl (Yk.extract (vs:= [h,NI 0]) (vr (.tuple #[h,NI 0]) rfl) (show _=some (NI 0:Value)from rfl) (oA rfl (oA rfl (oZ (tN (z _ _ (sk fun K7 ab=>(wt (oS rfl (Yk.build3 (vr (B8 (8)) rfl) (vr (NI 300) rfl) (vr (NI 13) rfl) (fun w=>Hq 8 ((300:Nat):Int) ((13:Nat):Int) w) (oS rfl (Yk.callA1 I7 (vr (.agg (msgC ((⟨8,((300:Nat):Int),[],[],[],0,0,zid,[],[],zid,zid,false,((13:Nat):Int)⟩,⟨(Value.slice none 0 0),(Value.slice none 0 0),(Value.slice none 0 0),(Value.slice none 0 0)⟩):Ah)).toArray) rfl) ((Ko (X:=((⟨8,((300:Nat):Int),[],[],[],0,0,zid,[],[],zid,zid,false,((13:Nat):Int)⟩,⟨(Value.slice none 0 0),(Value.slice none 0 0),(Value.slice none 0 0),(Value.slice none 0 0)⟩):Ah)) rfl rfl ⟨rfl,rfl,rfl,rfl,rfl⟩ Km Kn).mono ?_))))))))))))))))
 rintro e au ⟨f,rfl,i,q⟩
 refine⟨_,rfl,?_⟩
 have hE:=hE.trans q
 have j:=j.keep q
 refine oM rfl (oS rfl (Yk.extract (vs:= [f,NI 0]) (vr (.tuple #[f,NI 0]) rfl) (show _=some (f:Value)from rfl) (oS rfl (Yk.extract (vs:= [f,NI 0]) (vr (.tuple #[f,NI 0]) rfl) (show _=some (NI 0:Value)from rfl) (oA rfl (oA rfl (oZ (tN (ab _ _ (sk fun av ac=>(sk fun aw ad=>(wt (oM rfl (oS rfl (Yk.lenRB El (RB.of i (vr f rfl)) (oS rfl (Yk.eqI (a:=((([8,172,2,13]:List UInt8):List UInt8).length:Nat)) (b:=(0:Nat)) rfl rfl (k_eql _ _ _ _) (oZ (tN (ad _ _ (Am (vr (.bool (false)) (congrArg Value.bool (decide_eq_false (by decide)))) ?_)))))))))))))))))))))
 refine Ak (tN (ac _ _ (sk fun ax ae=>(wt (oM rfl (oM rfl (oS rfl (Yk.lenRB El (RB.of i (vr f rfl)) (oS rfl (Yk.bin (xv:=NI ((([8,172,2,13]:List UInt8):List UInt8).length)) (yv:=NI 1) rfl rfl rfl (BE _ _ _ (by decide) (by decide)) (oS rfl (Yk.sliceHi (xs:=([8,172,2,13]:List UInt8)) (n:=((([8,172,2,13]:List UInt8):List UInt8).length)-(1)) El Lt (vr f rfl) i (vr (NI (((([8,172,2,13]:List UInt8):List UInt8).length)-(1))) rfl) (by decide) fun r af ha17=>(oS rfl (Yk.callA1 MY (vr r rfl) ((F2 _ r ((([8,172,2,13]:List UInt8):List UInt8).take (((([8,172,2,13]:List UInt8):List UInt8).length)-(1))) af (by decide)).mono ?_)))))))))))))))
 rintro e ag ⟨X,c,rfl,hX,hd,o⟩
 refine⟨_,rfl,?_⟩
 have hE:=hE.trans o
 have j:=j.keep o
 have i:=i.keep o
 have hXr:=hX.refs
 have hXw:=hX.wants
 have hXh:=hX.haves
 have hXb:=hX.bytes
 rw[show([8,172,2,13]:List UInt8).length-1=3 from rfl,OQ]at hd
 obtain⟨ah,-⟩:=hd
 subst ah
 refine oM rfl (oS rfl (Yk.extract (vs:= [.agg (msgC X).toArray,NI 6]) (vr (.tuple #[.agg (msgC X).toArray,NI 6]) rfl) (show _=some (.agg (msgC X).toArray:Value)from rfl) (oS rfl (Yk.extract (vs:= [.agg (msgC X).toArray,NI 6]) (vr (.tuple #[.agg (msgC X).toArray,NI 6]) rfl) (show _=some (NI 6:Value)from rfl) (oS rfl (Yk.alloc (cs:=(msgC ((⟨0,0,[],[],[],0,0,zid,[],[],zid,zid,false,0⟩,⟨.slice none 0 0, .slice none 0 0, .slice none 0 0, .slice none 0 0⟩):Ah)).toArray) MN fun p ai ay s t az=> ?_))))))
 have g:=Ext.refl ag
 have aj:=hE.size
 have hE:=hE.trans t
 have g:=g.trans t
 have k:=s;clear s
 have a0:p<ai.heap.size:=by omega
 refine oS rfl (Yk.storeAll (vr (PQ p 0) rfl) (vr (.agg (msgC X).toArray) rfl) k (by simp only[List.size_toArray,msg_len]) (Au (msg_len _) Mr) (BK (x:=X) (RG.one (hXr.keep g)).2 (RG.one (hXw.keep g)).2 (RG.one (hXh.keep g)).2 (RB.one (hXb.keep g)).2) fun ak u v a1=> ?_)
 have hE:=Ae hE v (Nat.le_trans aj (by omega))
 have g:=Ae g v (Nat.le_trans (Nat.le_refl _) (by omega))
 clear k
 have k:ak.heap[p]? =some (.cells (msgC X).toArray 29 (0,0)):=u;clear u
 have a2:=bl k
 refine oA rfl (oZ (tN (ae _ _ (sk fun a3 al=>(wt (oM rfl (oS rfl (Yk.eqI (a:=(0:Nat)) (b:=(0:Nat)) rfl rfl (k_eql _ _ _ _) (oM rfl (oY (d:=31) rfl rfl (vr (.bool (true)) (congrArg Value.bool (decide_eq_true (rfl)))) (Yk.move (vr h rfl) (oY (d:=31) rfl rfl (vr (.bool (true)) (congrArg Value.bool (decide_eq_true (rfl)))) (Yk.convRB El u5 CD (RB.of (j.keep g) (vr h rfl)) (oY (d:=31) rfl rfl (vr (.bool (true)) (congrArg Value.bool (decide_eq_true (rfl)))) (Yk.eqSt (l:=([1,5]:List UInt8)) (m:=([1,5]:List UInt8)) (.inl rfl) (vr (St (([1,5]:List UInt8))) rfl) (vr (St (([1,5]:List UInt8))) rfl) (decide (([1,5]:List UInt8)=(([1,5]:List UInt8):List UInt8))) rfl (oS rfl (Yk.pickT (vr (.bool (true)) (congrArg Value.bool (decide_eq_true (rfl)))) (vr (.bool (true)) (congrArg Value.bool (decide_eq_true (rfl)))) (oM rfl (oY (d:=36) rfl rfl (vr (.bool (true)) rfl) (Yk.move (vr (NI 0) rfl) (oY (d:=36) rfl rfl (vr (.bool (true)) rfl) (Yk.eqI (a:=(0:Nat)) (b:=(0:Nat)) rfl rfl (k_eql _ _ _ _) (oS rfl (Yk.pickT (vr (.bool (true)) rfl) (vr (.bool (true)) (congrArg Value.bool (decide_eq_true (rfl)))) ?_))))))))))))))))))))))))
 refine oM rfl (oY (d:=40) rfl rfl (vr (.bool (true)) rfl) (Yk.move (vr f rfl) (oY (d:=40) rfl rfl (vr (.bool (true)) rfl) (Yk.convRB El u5 CD (RB.of (i.keep g) (vr f rfl)) (oY (d:=40) rfl rfl (vr (.bool (true)) rfl) (Yk.eqSt (l:=([8,172,2,13]:List UInt8)) (m:=([8,172,2,13]:List UInt8)) (.inl rfl) (vr (St (([8,172,2,13]:List UInt8))) rfl) (vr (St (([8,172,2,13]:List UInt8))) rfl) (decide (([8,172,2,13]:List UInt8)=(([8,172,2,13]:List UInt8):List UInt8))) rfl (oS rfl (Yk.pickT (vr (.bool (true)) rfl) (vr (.bool (true)) (congrArg Value.bool (decide_eq_true (rfl)))) (oM rfl (oY (d:=45) rfl rfl (vr (.bool (true)) rfl) (Yk.move (vr (NI 6) rfl) (oY (d:=45) rfl rfl (vr (.bool (true)) rfl) (Yk.eqI (a:=(6:Nat)) (b:=(6:Nat)) rfl rfl (k_eql _ _ _ _) (oS rfl (Yk.pickT (vr (.bool (true)) rfl) (vr (.bool (true)) (congrArg Value.bool (decide_eq_true (rfl)))) (oA rfl (Bp [(0, .bool (true)),(1,h),(2,NI 0),(3,f),(4,NI 0),(6,NI 6),(19, .bool (false))] ⟨rfl,rfl,rfl,rfl,rfl,rfl,(congrArg Value.bool (decide_eq_false (by decide))),trivial⟩ fun a4 ⟨T0,T1,T2,T3,T4,T6,ba,_⟩=>(tN (al _ _ (Ao (An (fn:=Tryd.f21) _ rfl [.bool (true)] (.bool (true)) rfl ⟨T0,trivial⟩ ?_)))))))))))))))))))))
 exact⟨rfl,hE⟩
open Go.RowKit
set_option maxRecDepth 100000
theorem L0(w:World)(x:Ah)(hm:MsgAt w x)(hL:B9 x.1)(hR:rightB x.1=true):
  Calls Tryd.prog 16 #[.agg (msgC x).toArray] w fun e w' =>∃v,e = .returned (.tuple #[v,NI 0])∧RB w' v (encB x.1)∧Ext w w' :=
 (FX w x hm hL).mono fun e w' h=>by
  obtain⟨v,rfl,h1,h2⟩:=h
  rw[if_pos hR]at h1
  exact⟨v,by rw[if_pos hR],h1,h2⟩
theorem M0(w:World)(x:Ah)(hm:MsgAt w x)(hL:B9 x.1)(hR:rightB x.1=false):
  Calls Tryd.prog 16 #[.agg (msgC x).toArray] w fun e w' =>∃v,e = .returned (.tuple #[v,NI 1])∧RB w' v []∧Ext w w' :=
 (FX w x hm hL).mono fun e w' h=>by
  obtain⟨v,rfl,h1,h2⟩:=h
  rw[if_neg (by rw[hR];decide)]at h1
  exact⟨v,by rw[if_neg (by rw[hR];decide)],h1,h2⟩
theorem I8(w:World)(y z:Ah)(hm:MsgAt w y)(hn:MsgAt w z)(hL:B9 y.1)(h:y.1=z.1):
  Calls Tryd.prog 24 #[.agg (msgC y).toArray, .agg (msgC z).toArray] w fun e w' =>e = .returned (.bool true)∧Ext w w' :=
 (Kp w y z hm hn hL).mono fun e w' k=>by rw[h,LZ]at k;exact k
set_option maxHeartbeats 1600000
open Go.RowKit
section
variable {P : Program} {K : Value → World → Prop} {ρ : As} {w : World} {d : Option Tmp} {ty : TypeId} {pos : String} {af : Array Edge} {gd : Option (Nat × Bool)}
theorem Yk.lit0G{α:Type}{k:Nat}{enc:α→List Value}{t e:TypeId}(hr:∀(w:World),(Instr.buildSlice t 0 #[]).run P w = .ok (.slice (some ⟨w.heap.size,0,none⟩) 0 0) (w.alloc (.cells #[] e))) 
    (hk:∀v w',OG w.heap.size e k enc w' v []→Ext w w' →K v w'):Yk P K ((execOp (Al ρ) ⟨d, .buildSlice t 0 #[],ty,pos,af,gd⟩).run P w):=by
  have hr' :(execOp (Al ρ) ⟨d, .buildSlice t 0 #[],ty,pos,af,gd⟩).run P w = .ok (.value (.slice (some ⟨w.heap.size,0,none⟩) 0 0)) (w.alloc (.cells #[] e)):=by
    unfold execOp
    simp only[List.map_toArray,List.map_nil,Sem.run_bind,hr,Result.andThen_ok,Sem.run_pure]
  rw[hr']
  refine hk _ _ ⟨fun x hx=>(List.not_mem_nil hx).elim,⟨by simp, .inr ⟨w.heap.size,0,#[],rfl,Nat.le_refl _,heap_alloc_new w _,Nat.le_refl _,by simp[maxLen],by simp,by simp⟩⟩⟩ (Below.alloc (Below.refl _ _) (Nat.le_refl _) _)
theorem Yk.slicePR{t e:TypeId}{n:Nat}(ht:P.underlying t=some (.array n e))(he:∀w' :World,(sizeOf e).run P w' = .ok 1 w'){x:Operand}{l:List UInt8} 
    (h:PR (Lib.byteCells l) (Al ρ x) w) (hl:l.length=n) (hn:n≤1048576) (hk:∀v,RB w v l→K v w):Yk P K ((execOp (Al ρ) ⟨d, .slice t x none none none,ty,pos,af,gd⟩).run P w):=by
  obtain⟨b,o,hx,hr⟩:=h
  subst hl
  refine Yk.sliceArr ht he hx (hk _ ⟨by rw[Lib.byteCells_length,Nat.mul_one],_,_,rfl,Nat.le_refl _,by unfold maxLen;omega,(fun h=>by cases h),fun a ha j u hu=> ?_⟩)
  cases ha
  rw[Addr.add_lit]
  exact hr j u hu
end
theorem L1{w:World}{α:Type}{b k:Nat}{e:TypeId}{enc:α→List Value}{v:Value}{l l' :List α}(h:OG b e k enc w v l)(e' :l=l'):OG b e k enc w v l' :=by rw[←e'];exact h
open Go.RowKit
def Cl(m:Msg):Msg:=
  if m.kind.toNat=2 then { msg0 m.kind m.session with refs:=m.refs }
  else if m.kind.toNat=3 then { msg0 m.kind m.session with wants:=m.wants,haves:=m.haves }
  else if m.kind.toNat=4 then { msg0 m.kind m.session with size:=m.size,id:=m.id }
  else if m.kind.toNat=5 then { msg0 m.kind m.session with at_:=m.at_ }
  else if m.kind.toNat=6 then { msg0 m.kind m.session with at_:=m.at_,bytes:=m.bytes }
  else if m.kind.toNat=7 then { msg0 m.kind m.session with size:=m.size,id:=m.id,name:=m.name,old:=m.old,new:=m.new,force:=m.force }
  else if m.kind.toNat=8 then { msg0 m.kind m.session with code:=m.code }
  else msg0 m.kind m.session
theorem M1{x:CI}:zeroB x=true↔x=zid:=⟨E7,fun h=>by rw[h];exact decide_eq_true rfl⟩
theorem KR{m:Msg}{p:Ai}(hK:AV m.kind=some p):Da m (Cl m)=CG m p:=by
  classical
  obtain⟨k,s,r,w,v,z,a,i,b,t,o,q,f,c⟩:=m
  rw[Bool.eq_iff_iff]
  rcases CX hK with ⟨hk,rfl⟩ | ⟨hk,rfl⟩ | ⟨hk,rfl⟩ | ⟨hk,rfl⟩ | ⟨hk,rfl⟩ | ⟨hk,rfl⟩ | ⟨hk,rfl⟩ | ⟨hk,rfl⟩ <;> (obtain rfl:k=_:=hk) <;>
    simp[Da,Cl,CG,M1,and_assoc]
def Li(m:Msg):Bool:=((((decide (m.kind.toNat<1)||decide (8<m.kind.toNat))||decide (m.session<((0:Nat):Int)))||decide (((2147483647:Nat):Int)<m.session)))
noncomputable def M2(m:Msg):Bool:=((((((((!BG m.refs|| !BT m.wants)|| !BT m.haves)||decide (m.size<((0:Nat):Int)))||decide (((1048576:Nat):Int)<m.size))||decide (m.at_<((0:Nat):Int)))||decide (((1048576:Nat):Int)<m.at_))||decide (m.code<((0:Nat):Int)))||decide (((22:Nat):Int)<m.code))
def M3(m:Msg):Bool:=decide (m.kind.toNat=6)&&(decide (m.bytes.length<1)||decide (256<m.bytes.length))
noncomputable def E9(m:Msg):Bool:= !(Li m|| !Da m (Cl m))&&(!M2 m&&(!M3 m&&(decide (m.kind.toNat≠7)||(nameB m.name&& !zeroB m.new))))
theorem KS{k:UInt8}(h:AV k=none):k.toNat<1∨8<k.toNat:=by
  by_cases h1:k.toNat<1
  · exact .inl h1
  · by_cases h2:8<k.toNat
    · exact .inr h2
    · have:k=1∨k=2∨k=3∨k=4∨k=5∨k=6∨k=7∨k=8:=by
        have h3:k.toNat=1∨k.toNat=2∨k.toNat=3∨k.toNat=4∨k.toNat=5∨k.toNat=6∨k.toNat=7∨k.toNat=8:=by omega
        rcases h3 with h | h | h | h | h | h | h | h
        · exact .inl (UInt8.toNat_inj.1 h)
        · exact .inr (.inl (UInt8.toNat_inj.1 h))
        · exact .inr (.inr (.inl (UInt8.toNat_inj.1 h)))
        · exact .inr (.inr (.inr (.inl (UInt8.toNat_inj.1 h))))
        · exact .inr (.inr (.inr (.inr (.inl (UInt8.toNat_inj.1 h)))))
        · exact .inr (.inr (.inr (.inr (.inr (.inl (UInt8.toNat_inj.1 h))))))
        · exact .inr (.inr (.inr (.inr (.inr (.inr (.inl (UInt8.toNat_inj.1 h)))))))
        · exact .inr (.inr (.inr (.inr (.inr (.inr (.inr (UInt8.toNat_inj.1 h)))))))
      rcases this with rfl | rfl | rfl | rfl | rfl | rfl | rfl | rfl <;> cases h
theorem Fq(n m:Int):boundB n m=(!decide (n<((0:Nat):Int))&& !decide (m<n)):=by
  unfold boundB
  rw[Bool.eq_iff_iff]
  simp only[Bool.and_eq_true,decide_eq_true_eq,Bool.not_eq_true',decide_eq_false_iff_not]
  omega
theorem Fr(m:Msg):E9 m=rightB m:=by
  cases hK:AV m.kind with
  | none=>
    rw[G7 hK]
    unfold E9 Li
    rcases KS hK with h | h
    · rw[decide_eq_true h];rfl
    · rw[decide_eq_true h];simp
  | some p=>
    rw[C7 hK]
    have hA:=KR hK
    have h1:Li m= !boundB m.session 2147483647:=by
      unfold Li
      rw[Fq]
      rcases CX hK with ⟨hk,-⟩ | ⟨hk,-⟩ | ⟨hk,-⟩ | ⟨hk,-⟩ | ⟨hk,-⟩ | ⟨hk,-⟩ | ⟨hk,-⟩ | ⟨hk,-⟩ <;> (rw[hk];simp)
    have h2:M2 m= !(((BG m.refs&&BT m.wants)&&BT m.haves)&&((boundB m.size 1048576&&boundB m.at_ 1048576)&&boundB m.code 22)):=by
      unfold M2
      rw[Fq,Fq,Fq]
      simp only[Bool.not_and,Bool.not_not,Bool.or_assoc]
      rfl
    have h3:M3 m=(p.bytes&&(decide (m.bytes.length<1)||decide (256<m.bytes.length))):=by
      unfold M3
      rcases CX hK with ⟨hk,rfl⟩ | ⟨hk,rfl⟩ | ⟨hk,rfl⟩ | ⟨hk,rfl⟩ | ⟨hk,rfl⟩ | ⟨hk,rfl⟩ | ⟨hk,rfl⟩ | ⟨hk,rfl⟩ <;> (rw[hk];simp)
    have h4:decide (m.kind.toNat≠7)= !p.push:=by
      rcases CX hK with ⟨hk,rfl⟩ | ⟨hk,rfl⟩ | ⟨hk,rfl⟩ | ⟨hk,rfl⟩ | ⟨hk,rfl⟩ | ⟨hk,rfl⟩ | ⟨hk,rfl⟩ | ⟨hk,rfl⟩ <;> (rw[hk];simp)
    unfold E9 C4
    rw[hA,h1,h2,h3,h4]
    generalize (p.bytes&&(decide (m.bytes.length<1)||decide (256<m.bytes.length)))=x1
    generalize (!p.push||(nameB m.name&& !zeroB m.new))=x2
    simp only[Bool.not_or,Bool.not_not,Bool.and_assoc]
theorem Oq(w:World)(y z:Ah)(n:Msg)(hm:MsgAt w y)(hn:MsgAt w z)(hL:B9 y.1)(h:z.1=n):
    Calls Tryd.prog 24 #[.agg (msgC y).toArray, .agg (msgC z).toArray] w fun e w' =>e = .returned (.bool (Da y.1 n))∧Ext w w' :=
  (Kp w y z hm hn hL).mono fun e w' k=>by rw[h]at k;exact k
theorem L2{m:Msg}(h:rightB m=true):m.bytes.length≤256∧m.name.length≤32:=by
  obtain⟨p,hK,hP⟩:=DT h
  have hF:=Dg hP
  have hB:=GC (EG hP).1
  refine⟨?_,?_⟩
  · cases hp:p.bytes with
    | true=>exact hF.bytes hp
    | false=>rw[hB.bytes hp];exact Nat.zero_le _
  · cases hp:p.push with
    | true=>exact hF.name hp
    | false=>rw[(hB.push hp).1];exact Nat.zero_le _
def IsMsg(n:Msg)(z:Value)(w:World):Prop:=∃X:Ah,z = .agg (msgC X).toArray∧X.1=n∧MsgAt w X
theorem IsMsg.stab(n:Msg):Stab Ext (IsMsg n):=fun _ _ _ ⟨X,h1,h2,h3⟩ k=>⟨X,h1,h2,h3.keep k⟩
theorem Hr(w:World)(s:Bs)(hs:s.length≤1099511627776):
    Calls Tryd.prog 102 #[St s] w fun e w' =>∃v',e = .returned v' ∧NewB 5 w w' v' (Bq s):=by
  have hs' :(⟨s.toArray⟩:ByteArray).size=s.length:=by show s.toArray.size=_;rw[List.size_toArray]
  have h:=KI w ⟨s.toArray⟩ (by rw[hs'];omega)
  rw[hs']at h
  exact h
theorem DW(w:World)(z:Int)(h0:0≤z)(h1:z≤9223372036854775807):Calls Tryd.prog 101 #[.int .i64 z] w fun e w' =>∃v',e = .returned v' ∧NewB 5 w w' v' (Lib.uvarint z.toNat):=by
  obtain⟨n,rfl⟩:=Int.eq_ofNat_of_zero_le h0
  exact DZ w n (by omega)
open Go.RowKit
set_option maxRecDepth 100000
theorem L3(w:World):(Instr.buildSlice 23 0 #[]).run Tryd.prog w = .ok (.slice (some ⟨w.heap.size,0,none⟩) 0 0) (w.alloc (.cells #[] 25)):=by kernel_rfl
theorem L4(w:World):(Instr.buildSlice 22 0 #[]).run Tryd.prog w = .ok (.slice (some ⟨w.heap.size,0,none⟩) 0 0) (w.alloc (.cells #[] 67)):=by kernel_rfl
theorem I9:AN Tryd.prog 53:=fun _ _=>by kernel_rfl
theorem L5(w:World):(Instr.buildSlice 26 0 #[]).run Tryd.prog w = .ok (.slice (some ⟨w.heap.size,0,none⟩) 0 0) (w.alloc (.cells #[] 5)):=by kernel_rfl
theorem Jv(z0:UInt8)(z1:Int)(w:World):(Instr.build 29 #[(0,B8 z0),(1, .int .i64 z1)]).run Tryd.prog w = .ok (.agg (B8 (z0) :: (.int .i64 (z1) :: ((Value.slice none 0 0) :: ((Value.slice none 0 0) :: ((Value.slice none 0 0) :: (.int .i64 (0) :: (.int .i64 (0) :: (Lib.byteCells zid.1++((Value.slice none 0 0) :: (St ([]) :: (Lib.byteCells zid.1++(Lib.byteCells zid.1++(.bool (false) :: (.int .i64 (0) :: ([]))))))))))))))).toArray) w:=by
 exact Iz _ _ w
theorem M4:AN Tryd.prog 61:=fun _ _=>by kernel_rfl
theorem M5:AN Tryd.prog 24:=fun _ _=>by kernel_rfl
theorem M6:AN Tryd.prog 62:=fun _ _=>by kernel_rfl
theorem Ja:AN Tryd.prog 63:=fun _ _=>by kernel_rfl
set_option maxHeartbeats 1600000
theorem FK(w:World)(v:Value)(l:List Bs)(hr:RG 32 Lib.byteCells w v l)(hl:l.length≤1099511627776):
  Calls Tryd.prog 53 #[v] w fun e w' =>∃v',e = .returned v' ∧OG w.heap.size 25 32 Lib.byteCells w' v' ([]++l)∧Ext w w' :=by
 refine calls_of_wpF (args:= [v]) Tryd.func53 rfl 6 rfl (Nat.le_of_ble_eq_true rfl) ?_
 intro g hb
 have h:g 0=(v:Value):=hb.get 0
 clear hb
 have hE:=Ext.refl w
 refine sk fun q i=>(wt (oA rfl (oZ (tN (i _ _ (sk fun r j=>(wt (oS rfl (Yk.lit0G (k:=32) (enc:=Lib.byteCells) L3 fun f m a n=> ?_)))))))))
 have hE:=hE.trans n
 refine oM rfl (oS rfl (Yk.appendRG _ _ w.heap.size _ 32 Bw wr9_ig25.choose_spec.1 wr9_ig25.choose_spec.2 Bw ([]) (l) (OG.of a (vr f rfl)) (RG.of (hr.keep hE) h) (fun _ _=>Av _) (by simp only[List.length_nil];omega) (by simp only[List.length_nil];omega) hE.size fun b o p c=> ?_))
 have c:Grew m o f b:=c
 have hE:=AF hE c a.2 (Nat.le_refl _)
 clear a
 refine oA rfl (oZ (tN (j _ _ (Ao (An (fn:=Tryd.f53) _ rfl [b] (b) rfl ⟨rfl,trivial⟩ ?_)))))
 exact⟨_,rfl,(show OG _ _ _ _ _ _ _ from p),hE⟩

theorem Fs(w:World)(x:Ah)(hm:MsgAt w x)(hL:LightM x.1):
  Calls Tryd.prog 17 #[.agg (msgC x).toArray] w fun e w' =>∃X,e = .returned (.agg (msgC X).toArray)∧X.1=x.1∧MsgAt w' X∧Ext w w' :=by
 have hmr:=hm.refs
 have hmw:=hm.wants
 have hmh:=hm.haves
 have hmb:=hm.bytes
 have cd:=hL.refs
 have ce:=hL.wants
 have cf:=hL.haves
 have cg:=hL.bytes
 refine calls_of_wpF (args:= [.agg (msgC x).toArray]) Tryd.func17 rfl 22 rfl (Nat.le_of_ble_eq_true rfl) ?_
 intro be hb
 have T0:be 0=(.agg (msgC x).toArray:Value):=hb.get 0
 clear hb
 have hE:=Ext.refl w
 refine sk fun K1 bf=>(wt (oS rfl (Yk.box (cs:=(msgC x:List Value).toArray) T0 fun c w3 ci az bg cj=> ?_)))
 have hE:=hE.trans bg
 have a:=az;clear az
 have ck:c<w3.heap.size:=by omega
 refine oS rfl (Yk.alloc (cs:=(msgC ((⟨0,0,[],[],[],0,0,zid,[],[],zid,zid,false,0⟩,⟨.slice none 0 0, .slice none 0 0, .slice none 0 0, .slice none 0 0⟩):Ah)).toArray) MN fun q ap bh a0 aq cl=> ?_)
 have ag:=Ext.refl w3
 have bi:=hE.size
 have cm:=Bo (bl a) bh
 have hE:=hE.trans aq
 have a:=eb aq a
 have ag:=ag.trans aq
 have b:=a0;clear a0
 have cn:q<ap.heap.size:=by omega
 refine oZ (tN (bf _ _ (sk fun co bj=>(wt ?_))))
 have ah:=Ext.refl ap
 have bk:=hE.size
 have cp:=ag.size
 refine oS rfl (Yk.lit0G (k:=66) (enc:=updC) L4 fun ai bm aa aj=> ?_)
 have a1:OB ai c:=AY aa.2 (bl a)
 have a2:OB ai q:=AY aa.2 (bl b)
 have hE:=hE.trans aj
 have a:=eb aj a
 have b:=eb aj b
 have ah:=ah.trans aj
 refine oS rfl (Yk.fieldAt H0 (vr (PQ c 0) rfl) (oS rfl (Yk.cell1 CJ rfl (vr (PQ c 2) rfl) (Ab a (show(msgC x)[2]? =some (x.2.refs:Value)from BF x)) (oS rfl (Yk.appendRG _ _ ap.heap.size _ 88 CJ wr9_ig67.choose_spec.1 wr9_ig67.choose_spec.2 CJ ([]) (x.1.refs) (OG.of aa (vr ai rfl)) (RG.of (hmr.keep hE) (vr x.2.refs rfl)) (fun _ _=>Em) (by simp only[List.length_nil];omega) (by simp only[List.length_nil];omega) ah.size fun f bn g t=> ?_)))))
 have t:Grew bm bn ai f:=t
 have ak:OB f c:=AP t a1 (bl a)
 have bo:OB f q:=AP t a2 (bl b)
 have hE:=AF hE t aa.2 bk
 have a:=AG a t a1
 have b:=AG b t a2
 clear aa
 refine oS rfl (Yk.fieldAt H0 (vr (PQ c 0) rfl) (oS rfl (Yk.storeC (i:=2) (v:=f) (vr (PQ c 2) rfl) (vr f rfl) a (by rw[msg_len];decide) ML (RG.one (RG.ofOwn g)).1 (RG.one (RG.ofOwn g)).2 fun u a3 ar cq=> ?_)))
 have hE:=Ae hE ar (Nat.le_trans (Nat.le_refl _) (by omega))
 clear a
 clear ag
 have b:=kb ar b (by omega)
 clear ah
 have g:=OG.kept g ar ak
 have a:u.heap[c]? =some (.cells (msgC ((⟨x.1.kind,x.1.session,([])++x.1.refs,x.1.wants,x.1.haves,x.1.size,x.1.at_,x.1.id,x.1.bytes,x.1.name,x.1.old,x.1.new,x.1.force,x.1.code⟩,⟨f,x.2.wants,x.2.haves,x.2.bytes⟩):Ah)).toArray 29 (0,0)):=Az a3 (HI x f (([])++x.1.refs));clear a3
 have cr:=bl a
 refine oZ ?_
 have ct:q<u.heap.size:=(bl b)
 have cu:c<u.heap.size:=(bl a)
 refine tN (bj _ _ (sk fun cv bp=> ?_))
 refine Gs 7 [Is (PQ c 3),Is (x.2.wants),fun z' w' =>OG u.heap.size 25 32 Lib.byteCells w' z' ([]++x.1.wants),Is (PQ c 4),Is (x.2.haves),fun z' w' =>OG u.heap.size 25 32 Lib.byteCells w' z' ([]++x.1.haves),Is (PQ c 3)] (by kernel_rfl) [8,9,10,11,12,13,14,15] (by kernel_rfl) (by kernel_rfl) (by kernel_rfl) (by kernel_rfl) rfl rfl (Db ⟨(fun _ _ _ h k=>OG.keep h k),(Db ⟨(fun _ _ _ h k=>OG.keep h k),Stab.is _,trivial⟩)⟩) ?bq ?hQ1002
 case bq=>
  refine⟨?_,?_,?_,?_,?_,?_,?_,?_,?_,?_,trivial⟩
  ·refine AT (Aa rfl fun σ w1 hC h=> ?_)
   have e1:σ 1=PQ c 0:=(Af (h 1 (by decide))).trans rfl
   exact Yk.fieldAt H1 e1 ⟨Ext.refl _,rfl⟩
  ·refine AT (Aa rfl fun σ w1 hC h=> ?_)
   have e8:=Af (h 8 (by decide))
   exact Yk.cell1 Bw rfl e8 (Ab (eb hC a) (show(msgC ((⟨x.1.kind,x.1.session,([])++x.1.refs,x.1.wants,x.1.haves,x.1.size,x.1.at_,x.1.id,x.1.bytes,x.1.name,x.1.old,x.1.new,x.1.force,x.1.code⟩,⟨f,x.2.wants,x.2.haves,x.2.bytes⟩):Ah))[3]? =some (x.2.wants:Value)from DE ((⟨x.1.kind,x.1.session,([])++x.1.refs,x.1.wants,x.1.haves,x.1.size,x.1.at_,x.1.id,x.1.bytes,x.1.name,x.1.old,x.1.new,x.1.force,x.1.code⟩,⟨f,x.2.wants,x.2.haves,x.2.bytes⟩):Ah))) ⟨Ext.refl _,rfl⟩
  ·refine AT (Aa rfl fun σ w1 hC h=> ?_)
   have e9:=Af (h 9 (by decide))
   refine Yk.callA1 I9 e9 ((FK _ x.2.wants x.1.wants (hmw.keep (hE.trans hC)) (by omega)).mono ?_)
   rintro e w2 ⟨v,rfl,ho,hx⟩
   exact⟨_,rfl,hx,ho.1,AC ho.2 hC.size⟩
  ·refine AT (Aa rfl fun σ w1 hC h=> ?_)
   have e1:σ 1=PQ c 0:=(Af (h 1 (by decide))).trans rfl
   exact Yk.fieldAt H2 e1 ⟨Ext.refl _,rfl⟩
  ·refine AT (Aa rfl fun σ w1 hC h=> ?_)
   have bu:=Af (h 11 (by decide))
   exact Yk.cell1 Bw rfl bu (Ab (eb hC a) (show(msgC ((⟨x.1.kind,x.1.session,([])++x.1.refs,x.1.wants,x.1.haves,x.1.size,x.1.at_,x.1.id,x.1.bytes,x.1.name,x.1.old,x.1.new,x.1.force,x.1.code⟩,⟨f,x.2.wants,x.2.haves,x.2.bytes⟩):Ah))[4]? =some (x.2.haves:Value)from DF ((⟨x.1.kind,x.1.session,([])++x.1.refs,x.1.wants,x.1.haves,x.1.size,x.1.at_,x.1.id,x.1.bytes,x.1.name,x.1.old,x.1.new,x.1.force,x.1.code⟩,⟨f,x.2.wants,x.2.haves,x.2.bytes⟩):Ah))) ⟨Ext.refl _,rfl⟩
  ·refine AT (Aa rfl fun σ w1 hC h=> ?_)
   have bv:=Af (h 12 (by decide))
   refine Yk.callA1 I9 bv ((FK _ x.2.haves x.1.haves (hmh.keep (hE.trans hC)) (by omega)).mono ?_)
   rintro e w2 ⟨v,rfl,ho,hx⟩
   exact⟨_,rfl,hx,ho.1,AC ho.2 hC.size⟩
  ·refine AT (Aa rfl fun σ w1 hC h=> ?_)
   have e1:σ 1=PQ c 0:=(Af (h 1 (by decide))).trans rfl
   exact Yk.fieldAt H1 e1 ⟨Ext.refl _,rfl⟩
  ·exact trivial
  ·exact trivial
  ·exact trivial
 intro ac a4 al he hf
 obtain⟨-,-,k10,-,-,k13,k14,-⟩:=hf
 obtain⟨T0,T1,T2,-⟩:=he.hold [(0,_),(1,PQ c 0),(2,PQ q 0)] ⟨T0,rfl,rfl,trivial⟩ rfl
 clear he
 have hE:=hE.trans al
 have b:=eb al b
 have g:=g.keep al
 have a:=eb al a
 have k10:(fun z' w' =>OG u.heap.size 25 32 Lib.byteCells w' z' ([]++x.1.wants)) (ac 10) a4:=k10
 obtain⟨m,a6⟩:∃v,ac 10=v:=⟨_,rfl⟩
 rw[a6]at k10
 have j:=k10;clear k10
 have bw:OB m q:=AY j.2 (by omega)
 have au:OB m c:=AY j.2 (by omega)
 have k13:(fun z' w' =>OG u.heap.size 25 32 Lib.byteCells w' z' ([]++x.1.haves)) (ac 13) a4:=k13
 obtain⟨n,a7⟩:∃v,ac 13=v:=⟨_,rfl⟩
 rw[a7]at k13
 have l:=k13;clear k13
 have bx:OB n q:=AY l.2 (by omega)
 have av:OB n c:=AY l.2 (by omega)
 have bz:ac 14=PQ c 3:=k14
 clear k14
 refine oS rfl (Yk.storeC (i:=3) (v:=m) bz a6 a (by rw[msg_len];decide) I0 (RG.one (RG.ofOwn j)).1 (RG.one (RG.ofOwn j)).2 fun b0 a8 ad cw=> ?_)
 have hE:=Ae hE ad (Nat.le_trans (Nat.le_refl _) (by omega))
 have b:=kb ad b (by omega)
 have g:=OG.kept g ad ak
 clear a
 have j:=OG.kept j ad au
 have l:=OG.kept l ad av
 have a:b0.heap[c]? =some (.cells (msgC ((⟨x.1.kind,x.1.session,([])++x.1.refs,[]++x.1.wants,x.1.haves,x.1.size,x.1.at_,x.1.id,x.1.bytes,x.1.name,x.1.old,x.1.new,x.1.force,x.1.code⟩,⟨f,m,x.2.haves,x.2.bytes⟩):Ah)).toArray 29 (0,0)):=Az a8 (HJ ((⟨x.1.kind,x.1.session,([])++x.1.refs,x.1.wants,x.1.haves,x.1.size,x.1.at_,x.1.id,x.1.bytes,x.1.name,x.1.old,x.1.new,x.1.force,x.1.code⟩,⟨f,x.2.wants,x.2.haves,x.2.bytes⟩):Ah) m ([]++x.1.wants));clear a8
 have cx:=bl a
 refine oS rfl (Yk.fieldAt H2 T1 (oS rfl (Yk.storeC (i:=4) (v:=n) (vr (PQ c 4) rfl) a7 a (by rw[msg_len];decide) I0 (RG.one (RG.ofOwn l)).1 (RG.one (RG.ofOwn l)).2 fun aw a9 ae cy=> ?_)))
 have hE:=Ae hE ae (Nat.le_trans (Nat.le_refl _) (by omega))
 have b:=kb ae b (by omega)
 have g:=OG.kept g ae ak
 have j:=OG.kept j ae au
 have l:=OG.kept l ae av
 clear a
 have a:aw.heap[c]? =some (.cells (msgC ((⟨x.1.kind,x.1.session,([])++x.1.refs,[]++x.1.wants,[]++x.1.haves,x.1.size,x.1.at_,x.1.id,x.1.bytes,x.1.name,x.1.old,x.1.new,x.1.force,x.1.code⟩,⟨f,m,n,x.2.bytes⟩):Ah)).toArray 29 (0,0)):=Az a9 (HK ((⟨x.1.kind,x.1.session,([])++x.1.refs,[]++x.1.wants,x.1.haves,x.1.size,x.1.at_,x.1.id,x.1.bytes,x.1.name,x.1.old,x.1.new,x.1.force,x.1.code⟩,⟨f,m,x.2.haves,x.2.bytes⟩):Ah) n ([]++x.1.haves));clear a9
 have cz:=bl a
 refine oZ (tN (bp _ _ (sk fun c0 b1=>(wt (oS rfl (Yk.lit0 L5 fun y b2 o=> ?_))))))
 have an:=Ext.refl aw
 have b3:=hE.size
 have ba:OB y q:=AY o.own (bl b)
 have bb:OB y c:=AY o.own (bl a)
 have b4:ApartV y f:=Fv g.2 o.own
 have b5:ApartV y m:=Fv j.2 o.own
 have b6:ApartV y n:=Fv l.2 o.own
 have hE:=hE.trans o.ext
 have b:=eb o.ext b
 have g:=g.keep o.ext
 have j:=j.keep o.ext
 have l:=l.keep o.ext
 have a:=eb o.ext a
 have an:=an.trans o.ext
 have ax:=o.own;clear o
 refine oS rfl (Yk.fieldAt FT T1 (oS rfl (Yk.cell1 El rfl (vr (PQ c 39) rfl) (Ab a (show(msgC ((⟨x.1.kind,x.1.session,([])++x.1.refs,[]++x.1.wants,[]++x.1.haves,x.1.size,x.1.at_,x.1.id,x.1.bytes,x.1.name,x.1.old,x.1.new,x.1.force,x.1.code⟩,⟨f,m,n,x.2.bytes⟩):Ah))[39]? =some (x.2.bytes:Value)from Ds ((⟨x.1.kind,x.1.session,([])++x.1.refs,[]++x.1.wants,[]++x.1.haves,x.1.size,x.1.at_,x.1.id,x.1.bytes,x.1.name,x.1.old,x.1.new,x.1.force,x.1.code⟩,⟨f,m,n,x.2.bytes⟩):Ah))) (oS rfl (Yk.appendRB _ _ aw.heap.size (.int .u8 0) El Hz rfl El (([]:List UInt8)) (x.1.bytes) (own_of ax (vr y rfl)) (RB.of (hmb.keep hE) (vr x.2.bytes rfl)) (by simp only[List.length_nil];omega) an.size fun p b7 s r=> ?_)))))
 have r:Grew b2 b7 y p:=r
 have b8:OB p q:=AP r ba (bl b)
 have b9:OB p c:=AP r bb (bl a)
 have hE:=AF hE r ax b3
 have b:=AG b r ba
 have g:=GM g r b4
 have j:=GM j r b5
 have l:=GM l r b6
 have a:=AG a r bb
 clear ax
 refine oS rfl (Yk.fieldAt FT T1 (oS rfl (Yk.storeC (i:=39) (v:=p) (vr (PQ c 39) rfl) (vr p rfl) a (by rw[msg_len];decide) IX (A6 s).1 (A6 s).2 fun ca bc z c1=> ?_)))
 have hE:=Ae hE z (Nat.le_trans (Nat.le_refl _) (by omega))
 have b:=kb z b (by omega)
 have g:=OG.kept g z ak
 have j:=OG.kept j z au
 have l:=OG.kept l z av
 clear a
 clear an
 have s:=AU s z b9
 have a:ca.heap[c]? =some (.cells (msgC ((⟨x.1.kind,x.1.session,([])++x.1.refs,[]++x.1.wants,[]++x.1.haves,x.1.size,x.1.at_,x.1.id,([]:List UInt8)++x.1.bytes,x.1.name,x.1.old,x.1.new,x.1.force,x.1.code⟩,⟨f,m,n,p⟩):Ah)).toArray 29 (0,0)):=Az bc (HM ((⟨x.1.kind,x.1.session,([])++x.1.refs,[]++x.1.wants,[]++x.1.haves,x.1.size,x.1.at_,x.1.id,x.1.bytes,x.1.name,x.1.old,x.1.new,x.1.force,x.1.code⟩,⟨f,m,n,x.2.bytes⟩):Ah) p (([]:List UInt8)++x.1.bytes));clear bc
 have c2:=bl a
 refine oZ (tN (b1 _ _ (sk fun c3 cb=>(wt (oS rfl (Yk.loadAll T1 a (Nr).choose_spec rfl (Au (msg_len ((⟨x.1.kind,x.1.session,([])++x.1.refs,[]++x.1.wants,[]++x.1.haves,x.1.size,x.1.at_,x.1.id,([]:List UInt8)++x.1.bytes,x.1.name,x.1.old,x.1.new,x.1.force,x.1.code⟩,⟨f,m,n,p⟩):Ah)) Mr) (oS rfl (Yk.storeAll T2 (vr (.agg (msgC ((⟨x.1.kind,x.1.session,([])++x.1.refs,[]++x.1.wants,[]++x.1.haves,x.1.size,x.1.at_,x.1.id,([]:List UInt8)++x.1.bytes,x.1.name,x.1.old,x.1.new,x.1.force,x.1.code⟩,⟨f,m,n,p⟩):Ah)).toArray) rfl) b (by simp only[List.size_toArray,msg_len]) (Au (msg_len _) Mr) (BK (x:=((⟨x.1.kind,x.1.session,([])++x.1.refs,[]++x.1.wants,[]++x.1.haves,x.1.size,x.1.at_,x.1.id,([]:List UInt8)++x.1.bytes,x.1.name,x.1.old,x.1.new,x.1.force,x.1.code⟩,⟨f,m,n,p⟩):Ah)) (RG.one (RG.ofOwn g)).2 (RG.one (RG.ofOwn j)).2 (RG.one (RG.ofOwn l)).2 (A6 s).2) fun cc bd af c4=> ?_))))))))
 have hE:=Ae hE af (Nat.le_trans bi (by omega))
 clear b
 have g:=OG.kept g af bo
 have j:=OG.kept j af bw
 have l:=OG.kept l af bx
 have s:=AU s af b8
 have b:cc.heap[q]? =some (.cells (msgC ((⟨x.1.kind,x.1.session,([])++x.1.refs,[]++x.1.wants,[]++x.1.haves,x.1.size,x.1.at_,x.1.id,([]:List UInt8)++x.1.bytes,x.1.name,x.1.old,x.1.new,x.1.force,x.1.code⟩,⟨f,m,n,p⟩):Ah)).toArray 29 (0,0)):=bd;clear bd
 have c5:=bl b
 refine oZ (tN (cb _ _ (Ao (An (fn:=Tryd.f17) _ rfl [.agg (msgC ((⟨x.1.kind,x.1.session,([])++x.1.refs,[]++x.1.wants,[]++x.1.haves,x.1.size,x.1.at_,x.1.id,([]:List UInt8)++x.1.bytes,x.1.name,x.1.old,x.1.new,x.1.force,x.1.code⟩,⟨f,m,n,p⟩):Ah)).toArray] (.agg (msgC ((⟨x.1.kind,x.1.session,([])++x.1.refs,[]++x.1.wants,[]++x.1.haves,x.1.size,x.1.at_,x.1.id,([]:List UInt8)++x.1.bytes,x.1.name,x.1.old,x.1.new,x.1.force,x.1.code⟩,⟨f,m,n,p⟩):Ah)).toArray) rfl ⟨ResF.row T2 b (Nr).choose_spec rfl (Au (msg_len _) Mr),trivial⟩ ?_))))
 exact⟨_,rfl,rfl,⟨RG.ofOwn g,RG.ofOwn j,RG.ofOwn l,RB.ofOwn s⟩,hE⟩

theorem NM(w:World)(x:Ah)(hm:MsgAt w x):
  Calls Tryd.prog 61 #[.agg (msgC x).toArray] w fun e w' =>∃X,e = .returned (.agg (msgC X).toArray)∧X.1=Cl x.1∧MsgAt w' X∧Ext w w' :=by
 have hmr:=hm.refs
 have hmw:=hm.wants
 have hmh:=hm.haves
 have hmb:=hm.bytes
 refine calls_of_wpF (args:= [.agg (msgC x).toArray]) Tryd.func61 rfl 71 rfl (Nat.le_of_ble_eq_true rfl) ?_
 intro bw hb
 have l:bw 0=(.agg (msgC x).toArray:Value):=hb.get 0
 clear hb
 have hE:=Ext.refl w
 refine sk fun K1 bx=>(wt (oS rfl (Yk.box (cs:=(msgC x:List Value).toArray) l fun j w3 cx a7 bz cy=> ?_)))
 have hE:=hE.trans bz
 have c:=a7;clear a7
 have cz:j<w3.heap.size:=by omega
 refine oS rfl (Yk.alloc (cs:=(msgC ((⟨0,0,[],[],[],0,0,zid,[],[],zid,zid,false,0⟩,⟨.slice none 0 0, .slice none 0 0, .slice none 0 0, .slice none 0 0⟩):Ah)).toArray) MN fun o b0 b1 a8 ak c0=> ?_)
 have al:=Ext.refl w3
 have b2:=hE.size
 have c1:=Bo (bl c) b1
 have hE:=hE.trans ak
 have c:=eb ak c
 have al:=al.trans ak
 have f:=a8;clear a8
 have c2:o<b0.heap.size:=by omega
 refine oZ (tN (bx _ _ (sk fun c3 b3=>(wt (oS rfl (Yk.fieldAt H8 (vr (PQ j 0) rfl) (oS rfl (Yk.cell1 u5 rfl (vr (PQ j 0) rfl) (Ab c (show(msgC x)[0]? =some (B8 (x.1.kind):Value)from Bv x)) (oS rfl (Yk.fieldAt LK (vr (PQ j 0) rfl) (oS rfl (Yk.cell1 FI rfl (vr (PQ j 1) rfl) (Ab c (show(msgC x)[1]? =some (.int .i64 (x.1.session:Int):Value)from CU x)) (oS rfl (Yk.build2 (vr (B8 (x.1.kind)) rfl) (vr (.int .i64 (x.1.session:Int)) rfl) (fun w=>Jv x.1.kind x.1.session w) (oS rfl (Yk.alloc (cs:=(msgC ((⟨0,0,[],[],[],0,0,zid,[],[],zid,zid,false,0⟩,⟨.slice none 0 0, .slice none 0 0, .slice none 0 0, .slice none 0 0⟩):Ah)).toArray) MN fun h b4 a9 ba am c4=> ?_))))))))))))))))
 have n:=hE.size
 have c5:=al.size
 have c6:=Bo (bl c) a9
 have c7:=Bo (bl f) a9
 have hE:=hE.trans am
 have c:=eb am c
 have f:=eb am f
 have g:=ba;clear ba
 have c8:h<b4.heap.size:=by omega
 refine oS rfl (Yk.storeAll (vr (PQ h 0) rfl) (vr (.agg (msgC ((⟨x.1.kind,x.1.session,[],[],[],0,0,zid,[],[],zid,zid,false,0⟩,⟨(Value.slice none 0 0),(Value.slice none 0 0),(Value.slice none 0 0),(Value.slice none 0 0)⟩):Ah)).toArray) rfl) g (by simp only[List.size_toArray,msg_len]) (Au (msg_len _) Mr) (BK (x:=((⟨x.1.kind,x.1.session,[],[],[],0,0,zid,[],[],zid,zid,false,0⟩,⟨(Value.slice none 0 0),(Value.slice none 0 0),(Value.slice none 0 0),(Value.slice none 0 0)⟩):Ah)) rfl rfl rfl rfl) fun p bb an c9=> ?_)
 have hE:=Ae hE an (Nat.le_trans n (by omega))
 have c:=kb an c (by omega)
 have f:=kb an f (by omega)
 clear g
 have g:p.heap[h]? =some (.cells (msgC ((⟨x.1.kind,x.1.session,[],[],[],0,0,zid,[],[],zid,zid,false,0⟩,⟨(Value.slice none 0 0),(Value.slice none 0 0),(Value.slice none 0 0),(Value.slice none 0 0)⟩):Ah)).toArray 29 (0,0)):=bb;clear bb
 have da:=bl g
 refine oZ (tN (b3 _ _ (sk fun b5 bc=> ?_)))
 have hJK43:∀(ρ:As) (wz:World),(∃X:Ah,ρ 0=(.agg (msgC x).toArray:Value)∧ρ 1=(PQ j 0:Value)∧ρ 2=(PQ o 0:Value)∧ρ 3=(PQ h 0:Value)∧Ext w wz∧wz.heap[j]? =some (.cells (msgC x).toArray 29 (0,0))∧wz.heap[o]? =some (.cells (msgC ((⟨0,0,[],[],[],0,0,zid,[],[],zid,zid,false,0⟩,⟨.slice none 0 0, .slice none 0 0, .slice none 0 0, .slice none 0 0⟩):Ah)).toArray 29 (0,0))∧wz.heap[h]? =some (.cells (msgC X).toArray 29 (0,0))∧(MsgAt w X)∧(X.1=Cl x.1)∧True)→b5 ρ wz:=by
  clear hE c f
  rintro db dc ⟨X,l,y,r,t,hE,c,f,hbX,hXa,hX1,-⟩
  refine bc _ _ ?_
  have hXr:=hXa.refs
  have hXw:=hXa.wants
  have hXh:=hXa.haves
  have hXb:=hXa.bytes
  refine sk fun dd b6=>(wt (oS rfl (Yk.loadAll t hbX (Nr).choose_spec rfl (Au (msg_len X) Mr) (oS rfl (Yk.storeAll r (vr (.agg (msgC X).toArray) rfl) f (by simp only[List.size_toArray,msg_len]) (Au (msg_len _) Mr) (BK (x:=X) (RG.one (hXr.keep hE)).2 (RG.one (hXw.keep hE)).2 (RG.one (hXh.keep hE)).2 (RB.one (hXb.keep hE)).2) fun b7 bd be de=> ?_)))))
  have hE:=Ae hE be (Nat.le_trans b2 (by omega))
  have c:=kb be c (by omega)
  clear f
  have f:b7.heap[o]? =some (.cells (msgC X).toArray 29 (0,0)):=bd;clear bd
  have df:=bl f
  refine oZ (tN (b6 _ _ (Ao (An (fn:=Tryd.f61) _ rfl [.agg (msgC X).toArray] (.agg (msgC X).toArray) rfl ⟨ResF.row r f (Nr).choose_spec rfl (Au (msg_len _) Mr),trivial⟩ ?_))))
  exact⟨X,rfl,hX1,hXa.keep hE,hE⟩
 clear bc
 refine sk fun dg b8=>(wt (oS rfl (Yk.fieldAt H8 (vr (PQ j 0) rfl) (oS rfl (Yk.cell1 u5 rfl (vr (PQ j 0) rfl) (Ab c (show(msgC x)[0]? =some (B8 (x.1.kind):Value)from Bv x)) (oZ (tN (b8 _ _ (AA (sk fun dh b9=>(wt (oS rfl (Yk.eqI (a:=((x.1.kind).toNat:Nat)) (b:=(2:Nat)) rfl rfl (k_eql _ _ _ _) (oA rfl (oZ (tN (b9 _ _ ?_)))))))))))))))))
 refine AX (((x.1.kind).toNat:Nat)=(2)) (vr (.bool (decide (((x.1.kind).toNat:Nat)=(2)))) rfl) (fun q=> ?_) (fun q=> ?_)
 ·refine wt (oS rfl (Yk.fieldAt H0 (vr (PQ j 0) rfl) (oS rfl (Yk.cell1 CJ rfl (vr (PQ j 2) rfl) (Ab c (show(msgC x)[2]? =some (x.2.refs:Value)from BF x)) (oS rfl (Yk.fieldAt H0 (vr (PQ h 0) rfl) (oS rfl (Yk.storeC (i:=2) (v:=x.2.refs) (vr (PQ h 2) rfl) (vr x.2.refs rfl) g (by rw[msg_len];decide) ML (RG.one (hmr.keep hE)).1 (RG.one (hmr.keep hE)).2 fun ca bf ao di=> ?_))))))))
  have hE:=Ae hE ao (Nat.le_trans n (by omega))
  have c:=kb ao c (by omega)
  have f:=kb ao f (by omega)
  clear g
  have g:ca.heap[h]? =some (.cells (msgC ((⟨x.1.kind,x.1.session,x.1.refs,[],[],0,0,zid,[],[],zid,zid,false,0⟩,⟨(x.2.refs),(Value.slice none 0 0),(Value.slice none 0 0),(Value.slice none 0 0)⟩):Ah)).toArray 29 (0,0)):=Az bf (HI ((⟨x.1.kind,x.1.session,[],[],[],0,0,zid,[],[],zid,zid,false,0⟩,⟨(Value.slice none 0 0),(Value.slice none 0 0),(Value.slice none 0 0),(Value.slice none 0 0)⟩):Ah) x.2.refs (x.1.refs));clear bf
  have dj:=bl g
  refine Bp [(0, .agg (msgC x).toArray),(1,PQ j 0),(2,PQ o 0),(3,PQ h 0),(10,B8 (x.1.kind))] ⟨l,rfl,rfl,rfl,rfl,trivial⟩ fun dk ⟨l,y,r,t,bg,_⟩=>(bN ?_)
  exact tN (hJK43 _ _ ⟨((⟨x.1.kind,x.1.session,x.1.refs,[],[],0,0,zid,[],[],zid,zid,false,0⟩,⟨(x.2.refs),(Value.slice none 0 0),(Value.slice none 0 0),(Value.slice none 0 0)⟩):Ah),l,y,r,t,hE,c,f,g,⟨hm.refs,RG.nil _ _ _,RG.nil _ _ _,RB.nil _⟩,by unfold Cl;rw[if_pos q],trivial⟩)
 refine sk fun dl cb=>(wt (oS rfl (Yk.eqI (a:=((x.1.kind).toNat:Nat)) (b:=(3:Nat)) rfl rfl (k_eql _ _ _ _) (oA rfl (oZ (tN (cb _ _ ?_)))))))
 refine AX (((x.1.kind).toNat:Nat)=(3)) (vr (.bool (decide (((x.1.kind).toNat:Nat)=(3)))) rfl) (fun s=> ?_) (fun s=> ?_)
 ·have af:Ext p (World.drew p):=(Below.refl _ _).drew
  have hE:=hE.trans af
  have c:=eb af c
  have f:=eb af f
  have g:=eb af g
  refine Dj [(0,18,PQ j 3),(1,19,x.2.wants),(2,20,PQ j 4),(3,21,x.2.haves),(4,22,PQ h 3),(6,23,PQ h 4)] [5,7] (fun wz=>Ext w wz∧wz.heap[j]? =some (.cells (msgC x).toArray 29 (0,0))∧wz.heap[o]? =some (.cells (msgC ((⟨0,0,[],[],[],0,0,zid,[],[],zid,zid,false,0⟩,⟨.slice none 0 0, .slice none 0 0, .slice none 0 0, .slice none 0 0⟩):Ah)).toArray 29 (0,0))∧True) (by kernel_rfl) (by kernel_rfl) (by kernel_rfl) ⟨hE,c,f,trivial⟩ ⟨fun ab ⟨hE,c,f,_⟩=>Yk.fieldAt H1 (vr (PQ j 0) rfl) ⟨rfl,rfl⟩,fun ab ⟨hE,c,f,_⟩=>Yk.cell1 Bw rfl (vr (PQ j 3) rfl) (Ab c (show(msgC x)[3]? =some (x.2.wants:Value)from DE x)) ⟨rfl,rfl⟩,fun ab ⟨hE,c,f,_⟩=>Yk.fieldAt H2 (vr (PQ j 0) rfl) ⟨rfl,rfl⟩,fun ab ⟨hE,c,f,_⟩=>Yk.cell1 Bw rfl (vr (PQ j 4) rfl) (Ab c (show(msgC x)[4]? =some (x.2.haves:Value)from DF x)) ⟨rfl,rfl⟩,fun ab ⟨hE,c,f,_⟩=>Yk.fieldAt H1 (vr (PQ h 0) rfl) ⟨rfl,rfl⟩,fun ab ⟨hE,c,f,_⟩=>Yk.fieldAt H2 (vr (PQ h 0) rfl) ⟨rfl,rfl⟩,trivial⟩ (Bb rfl (Yk.storeC (i:=3) (v:=x.2.wants) (vr (PQ h 3) rfl) (vr x.2.wants rfl) g (by rw[msg_len];decide) I0 (RG.one (hmw.keep hE)).1 (RG.one (hmw.keep hE)).2 fun cc bh ap dm=> ?_))
  have hE:=Ae hE ap (Nat.le_trans n (by omega))
  have c:=kb ap c (by omega)
  have f:=kb ap f (by omega)
  clear g
  have g:cc.heap[h]? =some (.cells (msgC ((⟨x.1.kind,x.1.session,[],x.1.wants,[],0,0,zid,[],[],zid,zid,false,0⟩,⟨(Value.slice none 0 0),(x.2.wants),(Value.slice none 0 0),(Value.slice none 0 0)⟩):Ah)).toArray 29 (0,0)):=Az bh (HJ ((⟨x.1.kind,x.1.session,[],[],[],0,0,zid,[],[],zid,zid,false,0⟩,⟨(Value.slice none 0 0),(Value.slice none 0 0),(Value.slice none 0 0),(Value.slice none 0 0)⟩):Ah) x.2.wants (x.1.wants));clear bh
  have dn:=bl g
  refine⟨.inr ⟨hE,c,f,trivial⟩,?_⟩
  refine Bb rfl (Yk.storeC (i:=4) (v:=x.2.haves) (vr (PQ h 4) rfl) (vr x.2.haves rfl) g (by rw[msg_len];decide) I0 (RG.one (hmh.keep hE)).1 (RG.one (hmh.keep hE)).2 fun cd bi aq dp=> ?_)
  have hE:=Ae hE aq (Nat.le_trans n (by omega))
  have c:=kb aq c (by omega)
  have f:=kb aq f (by omega)
  clear g
  have g:cd.heap[h]? =some (.cells (msgC ((⟨x.1.kind,x.1.session,[],x.1.wants,x.1.haves,0,0,zid,[],[],zid,zid,false,0⟩,⟨(Value.slice none 0 0),(x.2.wants),(x.2.haves),(Value.slice none 0 0)⟩):Ah)).toArray 29 (0,0)):=Az bi (HK ((⟨x.1.kind,x.1.session,[],x.1.wants,[],0,0,zid,[],[],zid,zid,false,0⟩,⟨(Value.slice none 0 0),(x.2.wants),(Value.slice none 0 0),(Value.slice none 0 0)⟩):Ah) x.2.haves (x.1.haves));clear bi
  have dq:=bl g
  refine⟨.inl rfl,?_⟩
  refine D8 (bN ?_)
  exact tN (hJK43 _ _ ⟨((⟨x.1.kind,x.1.session,[],x.1.wants,x.1.haves,0,0,zid,[],[],zid,zid,false,0⟩,⟨(Value.slice none 0 0),(x.2.wants),(x.2.haves),(Value.slice none 0 0)⟩):Ah),l,rfl,rfl,rfl,hE,c,f,g,⟨RG.nil _ _ _,hm.wants,hm.haves,RB.nil _⟩,by unfold Cl;rw[if_neg q,if_pos s],trivial⟩)
 refine sk fun dr ce=>(wt (oS rfl (Yk.eqI (a:=((x.1.kind).toNat:Nat)) (b:=(4:Nat)) rfl rfl (k_eql _ _ _ _) (oA rfl (oZ (tN (ce _ _ ?_)))))))
 refine AX (((x.1.kind).toNat:Nat)=(4)) (vr (.bool (decide (((x.1.kind).toNat:Nat)=(4)))) rfl) (fun u=> ?_) (fun u=> ?_)
 ·have ag:Ext p (World.drew p):=(Below.refl _ _).drew
  have hE:=hE.trans ag
  have c:=eb ag c
  have f:=eb ag f
  have g:=eb ag g
  refine Dj [(0,26,PQ j 5),(1,27, .int .i64 (x.1.size:Int)),(2,28,PQ j 7),(3,29,AB x.1.id.1),(4,30,PQ h 5),(6,31,PQ h 7)] [5,7] (fun wz=>Ext w wz∧wz.heap[j]? =some (.cells (msgC x).toArray 29 (0,0))∧wz.heap[o]? =some (.cells (msgC ((⟨0,0,[],[],[],0,0,zid,[],[],zid,zid,false,0⟩,⟨.slice none 0 0, .slice none 0 0, .slice none 0 0, .slice none 0 0⟩):Ah)).toArray 29 (0,0))∧True) (by kernel_rfl) (by kernel_rfl) (by kernel_rfl) ⟨hE,c,f,trivial⟩ ⟨fun ac ⟨hE,c,f,_⟩=>Yk.fieldAt H3 (vr (PQ j 0) rfl) ⟨rfl,rfl⟩,fun ac ⟨hE,c,f,_⟩=>Yk.cell1 FI rfl (vr (PQ j 5) rfl) (Ab c (show(msgC x)[5]? =some (.int .i64 (x.1.size:Int):Value)from Dq x)) ⟨rfl,rfl⟩,fun ac ⟨hE,c,f,_⟩=>Yk.fieldAt LI (vr (PQ j 0) rfl) ⟨rfl,rfl⟩,fun ac ⟨hE,c,f,_⟩=>Yk.loadPR (PR.blk c (CM x) (CV x) (vr (PQ j 7) rfl)) NV rfl (Aw x.1.id.2) ⟨rfl,rfl⟩,fun ac ⟨hE,c,f,_⟩=>Yk.fieldAt H3 (vr (PQ h 0) rfl) ⟨rfl,rfl⟩,fun ac ⟨hE,c,f,_⟩=>Yk.fieldAt LI (vr (PQ h 0) rfl) ⟨rfl,rfl⟩,trivial⟩ (Bb rfl (Yk.storeC (i:=5) (v:= .int .i64 (x.1.size:Int)) (vr (PQ h 5) rfl) (vr (.int .i64 (x.1.size:Int)) rfl) g (by rw[msg_len];decide) Dm rfl rfl fun cf bj ar ds=> ?_))
  have hE:=Ae hE ar (Nat.le_trans n (by omega))
  have c:=kb ar c (by omega)
  have f:=kb ar f (by omega)
  clear g
  have g:cf.heap[h]? =some (.cells (msgC ((⟨x.1.kind,x.1.session,[],[],[],x.1.size,0,zid,[],[],zid,zid,false,0⟩,⟨(Value.slice none 0 0),(Value.slice none 0 0),(Value.slice none 0 0),(Value.slice none 0 0)⟩):Ah)).toArray 29 (0,0)):=Az bj (FD ((⟨x.1.kind,x.1.session,[],[],[],0,0,zid,[],[],zid,zid,false,0⟩,⟨(Value.slice none 0 0),(Value.slice none 0 0),(Value.slice none 0 0),(Value.slice none 0 0)⟩):Ah) x.1.size);clear bj
  have dt:=bl g
  refine⟨.inr ⟨hE,c,f,trivial⟩,?_⟩
  refine Bb rfl (Yk.storeMid (a:=DG ((⟨x.1.kind,x.1.session,[],[],[],x.1.size,0,zid,[],[],zid,zid,false,0⟩,⟨(Value.slice none 0 0),(Value.slice none 0 0),(Value.slice none 0 0),(Value.slice none 0 0)⟩):Ah)) (m:=Lib.byteCells zid.1) (z:=Ed ((⟨x.1.kind,x.1.session,[],[],[],x.1.size,0,zid,[],[],zid,zid,false,0⟩,⟨(Value.slice none 0 0),(Value.slice none 0 0),(Value.slice none 0 0),(Value.slice none 0 0)⟩):Ah)) (cells:=Lib.byteCells x.1.id.1) (vr (PQ h 7) rfl) (vr (AB x.1.id.1) rfl) (CM ((⟨x.1.kind,x.1.session,[],[],[],x.1.size,0,zid,[],[],zid,zid,false,0⟩,⟨(Value.slice none 0 0),(Value.slice none 0 0),(Value.slice none 0 0),(Value.slice none 0 0)⟩):Ah)▸g) (CV ((⟨x.1.kind,x.1.session,[],[],[],x.1.size,0,zid,[],[],zid,zid,false,0⟩,⟨(Value.slice none 0 0),(Value.slice none 0 0),(Value.slice none 0 0),(Value.slice none 0 0)⟩):Ah)) (by rw[Lib.byteCells_length,Lib.byteCells_length,zid.2,x.1.id.2]) (by rw[Lib.byteCells_length,x.1.id.2];exact Mh) (Av _) fun cg bk au du=> ?_)
  have hE:=Ae hE au (Nat.le_trans n (by omega))
  have c:=kb au c (by omega)
  have f:=kb au f (by omega)
  clear g
  have g:cg.heap[h]? =some (.cells (msgC ((⟨x.1.kind,x.1.session,[],[],[],x.1.size,0,x.1.id,[],[],zid,zid,false,0⟩,⟨(Value.slice none 0 0),(Value.slice none 0 0),(Value.slice none 0 0),(Value.slice none 0 0)⟩):Ah)).toArray 29 (0,0)):=Az bk (FF ((⟨x.1.kind,x.1.session,[],[],[],x.1.size,0,zid,[],[],zid,zid,false,0⟩,⟨(Value.slice none 0 0),(Value.slice none 0 0),(Value.slice none 0 0),(Value.slice none 0 0)⟩):Ah) x.1.id);clear bk
  have dv:=bl g
  refine⟨.inl rfl,?_⟩
  refine D8 (bN ?_)
  exact tN (hJK43 _ _ ⟨((⟨x.1.kind,x.1.session,[],[],[],x.1.size,0,x.1.id,[],[],zid,zid,false,0⟩,⟨(Value.slice none 0 0),(Value.slice none 0 0),(Value.slice none 0 0),(Value.slice none 0 0)⟩):Ah),l,rfl,rfl,rfl,hE,c,f,g,⟨RG.nil _ _ _,RG.nil _ _ _,RG.nil _ _ _,RB.nil _⟩,by unfold Cl;rw[if_neg q,if_neg s,if_pos u],trivial⟩)
 refine sk fun dw ch=>(wt (oS rfl (Yk.eqI (a:=((x.1.kind).toNat:Nat)) (b:=(5:Nat)) rfl rfl (k_eql _ _ _ _) (oA rfl (oZ (tN (ch _ _ ?_)))))))
 refine AX (((x.1.kind).toNat:Nat)=(5)) (vr (.bool (decide (((x.1.kind).toNat:Nat)=(5)))) rfl) (fun aa=> ?_) (fun aa=> ?_)
 ·refine wt (oS rfl (Yk.fieldAt H4 (vr (PQ j 0) rfl) (oS rfl (Yk.cell1 FI rfl (vr (PQ j 6) rfl) (Ab c (show(msgC x)[6]? =some (.int .i64 (x.1.at_:Int):Value)from Dr x)) (oS rfl (Yk.fieldAt H4 (vr (PQ h 0) rfl) (oS rfl (Yk.storeC (i:=6) (v:= .int .i64 (x.1.at_:Int)) (vr (PQ h 6) rfl) (vr (.int .i64 (x.1.at_:Int)) rfl) g (by rw[msg_len];decide) Dm rfl rfl fun ci bm av dx=> ?_))))))))
  have hE:=Ae hE av (Nat.le_trans n (by omega))
  have c:=kb av c (by omega)
  have f:=kb av f (by omega)
  clear g
  have g:ci.heap[h]? =some (.cells (msgC ((⟨x.1.kind,x.1.session,[],[],[],0,x.1.at_,zid,[],[],zid,zid,false,0⟩,⟨(Value.slice none 0 0),(Value.slice none 0 0),(Value.slice none 0 0),(Value.slice none 0 0)⟩):Ah)).toArray 29 (0,0)):=Az bm (FE ((⟨x.1.kind,x.1.session,[],[],[],0,0,zid,[],[],zid,zid,false,0⟩,⟨(Value.slice none 0 0),(Value.slice none 0 0),(Value.slice none 0 0),(Value.slice none 0 0)⟩):Ah) x.1.at_);clear bm
  have dy:=bl g
  refine Bp [(0, .agg (msgC x).toArray),(1,PQ j 0),(2,PQ o 0),(3,PQ h 0),(10,B8 (x.1.kind))] ⟨l,rfl,rfl,rfl,rfl,trivial⟩ fun dz ⟨l,y,r,t,bg,_⟩=>(bN ?_)
  exact tN (hJK43 _ _ ⟨((⟨x.1.kind,x.1.session,[],[],[],0,x.1.at_,zid,[],[],zid,zid,false,0⟩,⟨(Value.slice none 0 0),(Value.slice none 0 0),(Value.slice none 0 0),(Value.slice none 0 0)⟩):Ah),l,y,r,t,hE,c,f,g,⟨RG.nil _ _ _,RG.nil _ _ _,RG.nil _ _ _,RB.nil _⟩,by unfold Cl;rw[if_neg q,if_neg s,if_neg u,if_pos aa],trivial⟩)
 refine sk fun d0 cj=>(wt (oS rfl (Yk.eqI (a:=((x.1.kind).toNat:Nat)) (b:=(6:Nat)) rfl rfl (k_eql _ _ _ _) (oA rfl (oZ (tN (cj _ _ ?_)))))))
 refine AX (((x.1.kind).toNat:Nat)=(6)) (vr (.bool (decide (((x.1.kind).toNat:Nat)=(6)))) rfl) (fun ad=> ?_) (fun ad=> ?_)
 ·have ah:Ext p (World.drew p):=(Below.refl _ _).drew
  have hE:=hE.trans ah
  have c:=eb ah c
  have f:=eb ah f
  have g:=eb ah g
  refine Dj [(0,39,PQ j 6),(1,40, .int .i64 (x.1.at_:Int)),(2,41,PQ j 39),(3,42,x.2.bytes),(4,43,PQ h 6),(6,44,PQ h 39)] [5,7] (fun wz=>Ext w wz∧wz.heap[j]? =some (.cells (msgC x).toArray 29 (0,0))∧wz.heap[o]? =some (.cells (msgC ((⟨0,0,[],[],[],0,0,zid,[],[],zid,zid,false,0⟩,⟨.slice none 0 0, .slice none 0 0, .slice none 0 0, .slice none 0 0⟩):Ah)).toArray 29 (0,0))∧True) (by kernel_rfl) (by kernel_rfl) (by kernel_rfl) ⟨hE,c,f,trivial⟩ ⟨fun ae ⟨hE,c,f,_⟩=>Yk.fieldAt H4 (vr (PQ j 0) rfl) ⟨rfl,rfl⟩,fun ae ⟨hE,c,f,_⟩=>Yk.cell1 FI rfl (vr (PQ j 6) rfl) (Ab c (show(msgC x)[6]? =some (.int .i64 (x.1.at_:Int):Value)from Dr x)) ⟨rfl,rfl⟩,fun ae ⟨hE,c,f,_⟩=>Yk.fieldAt FT (vr (PQ j 0) rfl) ⟨rfl,rfl⟩,fun ae ⟨hE,c,f,_⟩=>Yk.cell1 El rfl (vr (PQ j 39) rfl) (Ab c (show(msgC x)[39]? =some (x.2.bytes:Value)from Ds x)) ⟨rfl,rfl⟩,fun ae ⟨hE,c,f,_⟩=>Yk.fieldAt H4 (vr (PQ h 0) rfl) ⟨rfl,rfl⟩,fun ae ⟨hE,c,f,_⟩=>Yk.fieldAt FT (vr (PQ h 0) rfl) ⟨rfl,rfl⟩,trivial⟩ (Bb rfl (Yk.storeC (i:=6) (v:= .int .i64 (x.1.at_:Int)) (vr (PQ h 6) rfl) (vr (.int .i64 (x.1.at_:Int)) rfl) g (by rw[msg_len];decide) Dm rfl rfl fun ck bn aw d1=> ?_))
  have hE:=Ae hE aw (Nat.le_trans n (by omega))
  have c:=kb aw c (by omega)
  have f:=kb aw f (by omega)
  clear g
  have g:ck.heap[h]? =some (.cells (msgC ((⟨x.1.kind,x.1.session,[],[],[],0,x.1.at_,zid,[],[],zid,zid,false,0⟩,⟨(Value.slice none 0 0),(Value.slice none 0 0),(Value.slice none 0 0),(Value.slice none 0 0)⟩):Ah)).toArray 29 (0,0)):=Az bn (FE ((⟨x.1.kind,x.1.session,[],[],[],0,0,zid,[],[],zid,zid,false,0⟩,⟨(Value.slice none 0 0),(Value.slice none 0 0),(Value.slice none 0 0),(Value.slice none 0 0)⟩):Ah) x.1.at_);clear bn
  have d2:=bl g
  refine⟨.inr ⟨hE,c,f,trivial⟩,?_⟩
  refine Bb rfl (Yk.storeC (i:=39) (v:=x.2.bytes) (vr (PQ h 39) rfl) (vr x.2.bytes rfl) g (by rw[msg_len];decide) IX (RB.one (hmb.keep hE)).1 (RB.one (hmb.keep hE)).2 fun cl bo ax d3=> ?_)
  have hE:=Ae hE ax (Nat.le_trans n (by omega))
  have c:=kb ax c (by omega)
  have f:=kb ax f (by omega)
  clear g
  have g:cl.heap[h]? =some (.cells (msgC ((⟨x.1.kind,x.1.session,[],[],[],0,x.1.at_,zid,x.1.bytes,[],zid,zid,false,0⟩,⟨(Value.slice none 0 0),(Value.slice none 0 0),(Value.slice none 0 0),(x.2.bytes)⟩):Ah)).toArray 29 (0,0)):=Az bo (HM ((⟨x.1.kind,x.1.session,[],[],[],0,x.1.at_,zid,[],[],zid,zid,false,0⟩,⟨(Value.slice none 0 0),(Value.slice none 0 0),(Value.slice none 0 0),(Value.slice none 0 0)⟩):Ah) x.2.bytes (x.1.bytes));clear bo
  have d4:=bl g
  refine⟨.inl rfl,?_⟩
  refine D8 (bN ?_)
  exact tN (hJK43 _ _ ⟨((⟨x.1.kind,x.1.session,[],[],[],0,x.1.at_,zid,x.1.bytes,[],zid,zid,false,0⟩,⟨(Value.slice none 0 0),(Value.slice none 0 0),(Value.slice none 0 0),(x.2.bytes)⟩):Ah),l,rfl,rfl,rfl,hE,c,f,g,⟨RG.nil _ _ _,RG.nil _ _ _,RG.nil _ _ _,hm.bytes⟩,by unfold Cl;rw[if_neg q,if_neg s,if_neg u,if_neg aa,if_pos ad],trivial⟩)
 refine sk fun d5 cm=>(wt (oS rfl (Yk.eqI (a:=((x.1.kind).toNat:Nat)) (b:=(7:Nat)) rfl rfl (k_eql _ _ _ _) (oA rfl (oZ (tN (cm _ _ ?_)))))))
 refine AX (((x.1.kind).toNat:Nat)=(7)) (vr (.bool (decide (((x.1.kind).toNat:Nat)=(7)))) rfl) (fun ai=> ?_) (fun ai=> ?_)
 ·have aj:Ext p (World.drew p):=(Below.refl _ _).drew
  have hE:=hE.trans aj
  have c:=eb aj c
  have f:=eb aj f
  have g:=eb aj g
  refine Dj [(0,47,PQ j 5),(1,48, .int .i64 (x.1.size:Int)),(2,49,PQ j 7),(3,50,AB x.1.id.1),(4,51,PQ j 40),(5,52,St (x.1.name)),(6,53,PQ j 41),(7,54,AB x.1.old.1),(8,55,PQ j 73),(9,56,AB x.1.new.1),(10,57,PQ j 105),(11,58, .bool (x.1.force)),(12,59,PQ h 5),(14,60,PQ h 7),(16,61,PQ h 40),(18,62,PQ h 41),(20,63,PQ h 73),(22,64,PQ h 105)] [13,15,17,19,21,23] (fun wz=>Ext w wz∧wz.heap[j]? =some (.cells (msgC x).toArray 29 (0,0))∧wz.heap[o]? =some (.cells (msgC ((⟨0,0,[],[],[],0,0,zid,[],[],zid,zid,false,0⟩,⟨.slice none 0 0, .slice none 0 0, .slice none 0 0, .slice none 0 0⟩):Ah)).toArray 29 (0,0))∧True) (by kernel_rfl) (by kernel_rfl) (by kernel_rfl) ⟨hE,c,f,trivial⟩ ⟨fun k ⟨hE,c,f,_⟩=>Yk.fieldAt H3 (vr (PQ j 0) rfl) ⟨rfl,rfl⟩,fun k ⟨hE,c,f,_⟩=>Yk.cell1 FI rfl (vr (PQ j 5) rfl) (Ab c (show(msgC x)[5]? =some (.int .i64 (x.1.size:Int):Value)from Dq x)) ⟨rfl,rfl⟩,fun k ⟨hE,c,f,_⟩=>Yk.fieldAt LI (vr (PQ j 0) rfl) ⟨rfl,rfl⟩,fun k ⟨hE,c,f,_⟩=>Yk.loadPR (PR.blk c (CM x) (CV x) (vr (PQ j 7) rfl)) NV rfl (Aw x.1.id.2) ⟨rfl,rfl⟩,fun k ⟨hE,c,f,_⟩=>Yk.fieldAt H7 (vr (PQ j 0) rfl) ⟨rfl,rfl⟩,fun k ⟨hE,c,f,_⟩=>Yk.cell1 CD rfl (vr (PQ j 40) rfl) (Ab c (show(msgC x)[40]? =some (St (x.1.name):Value)from Ee x)) ⟨rfl,rfl⟩,fun k ⟨hE,c,f,_⟩=>Yk.fieldAt KF (vr (PQ j 0) rfl) ⟨rfl,rfl⟩,fun k ⟨hE,c,f,_⟩=>Yk.loadPR (PR.blk c (Dz x) (DP x) (vr (PQ j 41) rfl)) NV rfl (Aw x.1.old.2) ⟨rfl,rfl⟩,fun k ⟨hE,c,f,_⟩=>Yk.fieldAt G8 (vr (PQ j 0) rfl) ⟨rfl,rfl⟩,fun k ⟨hE,c,f,_⟩=>Yk.loadPR (PR.blk c (C1 x) (Dd x) (vr (PQ j 73) rfl)) NV rfl (Aw x.1.new.2) ⟨rfl,rfl⟩,fun k ⟨hE,c,f,_⟩=>Yk.fieldAt KG (vr (PQ j 0) rfl) ⟨rfl,rfl⟩,fun k ⟨hE,c,f,_⟩=>Yk.cell1 De rfl (vr (PQ j 105) rfl) (Ab c (show(msgC x)[105]? =some (.bool (x.1.force):Value)from ET x)) ⟨rfl,rfl⟩,fun k ⟨hE,c,f,_⟩=>Yk.fieldAt H3 (vr (PQ h 0) rfl) ⟨rfl,rfl⟩,fun k ⟨hE,c,f,_⟩=>Yk.fieldAt LI (vr (PQ h 0) rfl) ⟨rfl,rfl⟩,fun k ⟨hE,c,f,_⟩=>Yk.fieldAt H7 (vr (PQ h 0) rfl) ⟨rfl,rfl⟩,fun k ⟨hE,c,f,_⟩=>Yk.fieldAt KF (vr (PQ h 0) rfl) ⟨rfl,rfl⟩,fun k ⟨hE,c,f,_⟩=>Yk.fieldAt G8 (vr (PQ h 0) rfl) ⟨rfl,rfl⟩,fun k ⟨hE,c,f,_⟩=>Yk.fieldAt KG (vr (PQ h 0) rfl) ⟨rfl,rfl⟩,trivial⟩ (Bb rfl (Yk.storeC (i:=5) (v:= .int .i64 (x.1.size:Int)) (vr (PQ h 5) rfl) (vr (.int .i64 (x.1.size:Int)) rfl) g (by rw[msg_len];decide) Dm rfl rfl fun cn bp ay d6=> ?_))
  have hE:=Ae hE ay (Nat.le_trans n (by omega))
  have c:=kb ay c (by omega)
  have f:=kb ay f (by omega)
  clear g
  have g:cn.heap[h]? =some (.cells (msgC ((⟨x.1.kind,x.1.session,[],[],[],x.1.size,0,zid,[],[],zid,zid,false,0⟩,⟨(Value.slice none 0 0),(Value.slice none 0 0),(Value.slice none 0 0),(Value.slice none 0 0)⟩):Ah)).toArray 29 (0,0)):=Az bp (FD ((⟨x.1.kind,x.1.session,[],[],[],0,0,zid,[],[],zid,zid,false,0⟩,⟨(Value.slice none 0 0),(Value.slice none 0 0),(Value.slice none 0 0),(Value.slice none 0 0)⟩):Ah) x.1.size);clear bp
  have d7:=bl g
  refine⟨.inr ⟨hE,c,f,trivial⟩,?_⟩
  refine Bb rfl (Yk.storeMid (a:=DG ((⟨x.1.kind,x.1.session,[],[],[],x.1.size,0,zid,[],[],zid,zid,false,0⟩,⟨(Value.slice none 0 0),(Value.slice none 0 0),(Value.slice none 0 0),(Value.slice none 0 0)⟩):Ah)) (m:=Lib.byteCells zid.1) (z:=Ed ((⟨x.1.kind,x.1.session,[],[],[],x.1.size,0,zid,[],[],zid,zid,false,0⟩,⟨(Value.slice none 0 0),(Value.slice none 0 0),(Value.slice none 0 0),(Value.slice none 0 0)⟩):Ah)) (cells:=Lib.byteCells x.1.id.1) (vr (PQ h 7) rfl) (vr (AB x.1.id.1) rfl) (CM ((⟨x.1.kind,x.1.session,[],[],[],x.1.size,0,zid,[],[],zid,zid,false,0⟩,⟨(Value.slice none 0 0),(Value.slice none 0 0),(Value.slice none 0 0),(Value.slice none 0 0)⟩):Ah)▸g) (CV ((⟨x.1.kind,x.1.session,[],[],[],x.1.size,0,zid,[],[],zid,zid,false,0⟩,⟨(Value.slice none 0 0),(Value.slice none 0 0),(Value.slice none 0 0),(Value.slice none 0 0)⟩):Ah)) (by rw[Lib.byteCells_length,Lib.byteCells_length,zid.2,x.1.id.2]) (by rw[Lib.byteCells_length,x.1.id.2];exact Mh) (Av _) fun co bq az d8=> ?_)
  have hE:=Ae hE az (Nat.le_trans n (by omega))
  have c:=kb az c (by omega)
  have f:=kb az f (by omega)
  clear g
  have g:co.heap[h]? =some (.cells (msgC ((⟨x.1.kind,x.1.session,[],[],[],x.1.size,0,x.1.id,[],[],zid,zid,false,0⟩,⟨(Value.slice none 0 0),(Value.slice none 0 0),(Value.slice none 0 0),(Value.slice none 0 0)⟩):Ah)).toArray 29 (0,0)):=Az bq (FF ((⟨x.1.kind,x.1.session,[],[],[],x.1.size,0,zid,[],[],zid,zid,false,0⟩,⟨(Value.slice none 0 0),(Value.slice none 0 0),(Value.slice none 0 0),(Value.slice none 0 0)⟩):Ah) x.1.id);clear bq
  have d9:=bl g
  refine⟨.inr ⟨hE,c,f,trivial⟩,?_⟩
  refine Bb rfl (Yk.storeC (i:=40) (v:=St (x.1.name)) (vr (PQ h 40) rfl) (vr (St (x.1.name)) rfl) g (by rw[msg_len];decide) NA rfl rfl fun cp br a0 ea=> ?_)
  have hE:=Ae hE a0 (Nat.le_trans n (by omega))
  have c:=kb a0 c (by omega)
  have f:=kb a0 f (by omega)
  clear g
  have g:cp.heap[h]? =some (.cells (msgC ((⟨x.1.kind,x.1.session,[],[],[],x.1.size,0,x.1.id,[],x.1.name,zid,zid,false,0⟩,⟨(Value.slice none 0 0),(Value.slice none 0 0),(Value.slice none 0 0),(Value.slice none 0 0)⟩):Ah)).toArray 29 (0,0)):=Az br (JK ((⟨x.1.kind,x.1.session,[],[],[],x.1.size,0,x.1.id,[],[],zid,zid,false,0⟩,⟨(Value.slice none 0 0),(Value.slice none 0 0),(Value.slice none 0 0),(Value.slice none 0 0)⟩):Ah) x.1.name);clear br
  have ec:=bl g
  refine⟨.inr ⟨hE,c,f,trivial⟩,?_⟩
  refine Bb rfl (Yk.storeMid (a:=D6 ((⟨x.1.kind,x.1.session,[],[],[],x.1.size,0,x.1.id,[],x.1.name,zid,zid,false,0⟩,⟨(Value.slice none 0 0),(Value.slice none 0 0),(Value.slice none 0 0),(Value.slice none 0 0)⟩):Ah)) (m:=Lib.byteCells zid.1) (z:=ER ((⟨x.1.kind,x.1.session,[],[],[],x.1.size,0,x.1.id,[],x.1.name,zid,zid,false,0⟩,⟨(Value.slice none 0 0),(Value.slice none 0 0),(Value.slice none 0 0),(Value.slice none 0 0)⟩):Ah)) (cells:=Lib.byteCells x.1.old.1) (vr (PQ h 41) rfl) (vr (AB x.1.old.1) rfl) (Dz ((⟨x.1.kind,x.1.session,[],[],[],x.1.size,0,x.1.id,[],x.1.name,zid,zid,false,0⟩,⟨(Value.slice none 0 0),(Value.slice none 0 0),(Value.slice none 0 0),(Value.slice none 0 0)⟩):Ah)▸g) (DP ((⟨x.1.kind,x.1.session,[],[],[],x.1.size,0,x.1.id,[],x.1.name,zid,zid,false,0⟩,⟨(Value.slice none 0 0),(Value.slice none 0 0),(Value.slice none 0 0),(Value.slice none 0 0)⟩):Ah)) (by rw[Lib.byteCells_length,Lib.byteCells_length,zid.2,x.1.old.2]) (by rw[Lib.byteCells_length,x.1.old.2];exact Mh) (Av _) fun cq bs a1 ed=> ?_)
  have hE:=Ae hE a1 (Nat.le_trans n (by omega))
  have c:=kb a1 c (by omega)
  have f:=kb a1 f (by omega)
  clear g
  have g:cq.heap[h]? =some (.cells (msgC ((⟨x.1.kind,x.1.session,[],[],[],x.1.size,0,x.1.id,[],x.1.name,x.1.old,zid,false,0⟩,⟨(Value.slice none 0 0),(Value.slice none 0 0),(Value.slice none 0 0),(Value.slice none 0 0)⟩):Ah)).toArray 29 (0,0)):=Az bs (Io ((⟨x.1.kind,x.1.session,[],[],[],x.1.size,0,x.1.id,[],x.1.name,zid,zid,false,0⟩,⟨(Value.slice none 0 0),(Value.slice none 0 0),(Value.slice none 0 0),(Value.slice none 0 0)⟩):Ah) x.1.old);clear bs
  have ee:=bl g
  refine⟨.inr ⟨hE,c,f,trivial⟩,?_⟩
  refine Bb rfl (Yk.storeMid (a:=D7 ((⟨x.1.kind,x.1.session,[],[],[],x.1.size,0,x.1.id,[],x.1.name,x.1.old,zid,false,0⟩,⟨(Value.slice none 0 0),(Value.slice none 0 0),(Value.slice none 0 0),(Value.slice none 0 0)⟩):Ah)) (m:=Lib.byteCells zid.1) (z:=ES ((⟨x.1.kind,x.1.session,[],[],[],x.1.size,0,x.1.id,[],x.1.name,x.1.old,zid,false,0⟩,⟨(Value.slice none 0 0),(Value.slice none 0 0),(Value.slice none 0 0),(Value.slice none 0 0)⟩):Ah)) (cells:=Lib.byteCells x.1.new.1) (vr (PQ h 73) rfl) (vr (AB x.1.new.1) rfl) (C1 ((⟨x.1.kind,x.1.session,[],[],[],x.1.size,0,x.1.id,[],x.1.name,x.1.old,zid,false,0⟩,⟨(Value.slice none 0 0),(Value.slice none 0 0),(Value.slice none 0 0),(Value.slice none 0 0)⟩):Ah)▸g) (Dd ((⟨x.1.kind,x.1.session,[],[],[],x.1.size,0,x.1.id,[],x.1.name,x.1.old,zid,false,0⟩,⟨(Value.slice none 0 0),(Value.slice none 0 0),(Value.slice none 0 0),(Value.slice none 0 0)⟩):Ah)) (by rw[Lib.byteCells_length,Lib.byteCells_length,zid.2,x.1.new.2]) (by rw[Lib.byteCells_length,x.1.new.2];exact Mh) (Av _) fun cr bt a2 ef=> ?_)
  have hE:=Ae hE a2 (Nat.le_trans n (by omega))
  have c:=kb a2 c (by omega)
  have f:=kb a2 f (by omega)
  clear g
  have g:cr.heap[h]? =some (.cells (msgC ((⟨x.1.kind,x.1.session,[],[],[],x.1.size,0,x.1.id,[],x.1.name,x.1.old,x.1.new,false,0⟩,⟨(Value.slice none 0 0),(Value.slice none 0 0),(Value.slice none 0 0),(Value.slice none 0 0)⟩):Ah)).toArray 29 (0,0)):=Az bt (Ip ((⟨x.1.kind,x.1.session,[],[],[],x.1.size,0,x.1.id,[],x.1.name,x.1.old,zid,false,0⟩,⟨(Value.slice none 0 0),(Value.slice none 0 0),(Value.slice none 0 0),(Value.slice none 0 0)⟩):Ah) x.1.new);clear bt
  have eg:=bl g
  refine⟨.inr ⟨hE,c,f,trivial⟩,?_⟩
  refine Bb rfl (Yk.storeC (i:=105) (v:= .bool (x.1.force)) (vr (PQ h 105) rfl) (vr (.bool (x.1.force)) rfl) g (by rw[msg_len];decide) MO rfl rfl fun ct bu a3 eh=> ?_)
  have hE:=Ae hE a3 (Nat.le_trans n (by omega))
  have c:=kb a3 c (by omega)
  have f:=kb a3 f (by omega)
  clear g
  have g:ct.heap[h]? =some (.cells (msgC ((⟨x.1.kind,x.1.session,[],[],[],x.1.size,0,x.1.id,[],x.1.name,x.1.old,x.1.new,x.1.force,0⟩,⟨(Value.slice none 0 0),(Value.slice none 0 0),(Value.slice none 0 0),(Value.slice none 0 0)⟩):Ah)).toArray 29 (0,0)):=Az bu (Iq ((⟨x.1.kind,x.1.session,[],[],[],x.1.size,0,x.1.id,[],x.1.name,x.1.old,x.1.new,false,0⟩,⟨(Value.slice none 0 0),(Value.slice none 0 0),(Value.slice none 0 0),(Value.slice none 0 0)⟩):Ah) x.1.force);clear bu
  have ei:=bl g
  refine⟨.inl rfl,?_⟩
  refine D8 (bN ?_)
  exact tN (hJK43 _ _ ⟨((⟨x.1.kind,x.1.session,[],[],[],x.1.size,0,x.1.id,[],x.1.name,x.1.old,x.1.new,x.1.force,0⟩,⟨(Value.slice none 0 0),(Value.slice none 0 0),(Value.slice none 0 0),(Value.slice none 0 0)⟩):Ah),l,rfl,rfl,rfl,hE,c,f,g,⟨RG.nil _ _ _,RG.nil _ _ _,RG.nil _ _ _,RB.nil _⟩,by unfold Cl;rw[if_neg q,if_neg s,if_neg u,if_neg aa,if_neg ad,if_pos ai],trivial⟩)
 refine sk fun ej cu=>(wt (oS rfl (Yk.eqI (a:=((x.1.kind).toNat:Nat)) (b:=(8:Nat)) rfl rfl (k_eql _ _ _ _) (oA rfl (oZ (tN (cu _ _ ?_)))))))
 refine AX (((x.1.kind).toNat:Nat)=(8)) (vr (.bool (decide (((x.1.kind).toNat:Nat)=(8)))) rfl) (fun a4=> ?_) (fun a4=> ?_)
 ·refine wt (oS rfl (Yk.fieldAt G9 (vr (PQ j 0) rfl) (oS rfl (Yk.cell1 J1 rfl (vr (PQ j 106) rfl) (Ab c (show(msgC x)[106]? =some (.int .i64 (x.1.code:Int):Value)from DQ x)) (oS rfl (Yk.fieldAt G9 (vr (PQ h 0) rfl) (oS rfl (Yk.storeC (i:=106) (v:= .int .i64 (x.1.code:Int)) (vr (PQ h 106) rfl) (vr (.int .i64 (x.1.code:Int)) rfl) g (by rw[msg_len];decide) LR rfl rfl fun cv bv a5 el=> ?_))))))))
  have hE:=Ae hE a5 (Nat.le_trans n (by omega))
  have c:=kb a5 c (by omega)
  have f:=kb a5 f (by omega)
  clear g
  have g:cv.heap[h]? =some (.cells (msgC ((⟨x.1.kind,x.1.session,[],[],[],0,0,zid,[],[],zid,zid,false,x.1.code⟩,⟨(Value.slice none 0 0),(Value.slice none 0 0),(Value.slice none 0 0),(Value.slice none 0 0)⟩):Ah)).toArray 29 (0,0)):=Az bv (Ir ((⟨x.1.kind,x.1.session,[],[],[],0,0,zid,[],[],zid,zid,false,0⟩,⟨(Value.slice none 0 0),(Value.slice none 0 0),(Value.slice none 0 0),(Value.slice none 0 0)⟩):Ah) x.1.code);clear bv
  have em:=bl g
  refine Bp [(0, .agg (msgC x).toArray),(1,PQ j 0),(2,PQ o 0),(3,PQ h 0),(10,B8 (x.1.kind))] ⟨l,rfl,rfl,rfl,rfl,trivial⟩ fun en ⟨l,y,r,t,bg,_⟩=>(bN ?_)
  exact tN (hJK43 _ _ ⟨((⟨x.1.kind,x.1.session,[],[],[],0,0,zid,[],[],zid,zid,false,x.1.code⟩,⟨(Value.slice none 0 0),(Value.slice none 0 0),(Value.slice none 0 0),(Value.slice none 0 0)⟩):Ah),l,y,r,t,hE,c,f,g,⟨RG.nil _ _ _,RG.nil _ _ _,RG.nil _ _ _,RB.nil _⟩,by unfold Cl;rw[if_neg q,if_neg s,if_neg u,if_neg aa,if_neg ad,if_neg ai,if_pos a4],trivial⟩)
 refine Ak (bN ?_)
 exact tN (hJK43 _ _ ⟨((⟨x.1.kind,x.1.session,[],[],[],0,0,zid,[],[],zid,zid,false,0⟩,⟨(Value.slice none 0 0),(Value.slice none 0 0),(Value.slice none 0 0),(Value.slice none 0 0)⟩):Ah),l,rfl,rfl,rfl,hE,c,f,g,⟨RG.nil _ _ _,RG.nil _ _ _,RG.nil _ _ _,RB.nil _⟩,by unfold Cl;rw[if_neg q,if_neg s,if_neg u,if_neg aa,if_neg ad,if_neg ai,if_neg a4],trivial⟩)

theorem Kq(w:World)(y:Ah)(hm:MsgAt w y)(hL:B9 y.1):
  Calls Tryd.prog 20 #[.agg (msgC y).toArray] w fun e w' =>e = .returned (.bool (rightB y.1))∧Ext w w' :=by
 have hmr:=hm.refs
 have hmw:=hm.wants
 have hmh:=hm.haves
 have hmb:=hm.bytes
 refine calls_of_wpF (args:= [.agg (msgC y).toArray]) Tryd.func20 rfl 103 rfl (Nat.le_of_ble_eq_true rfl) ?_
 intro v hb
 have j:v 0=(.agg (msgC y).toArray:Value):=hb.get 0
 clear hb
 have hE:=Ext.refl w
 refine sk fun K1 z=>(wt (oS rfl (Yk.box (cs:=(msgC y:List Value).toArray) j fun c w3 bi o ab bj=> ?_)))
 have hE:=hE.trans ab
 have f:=o;clear o
 have bk:c<w3.heap.size:=by omega
 refine oA rfl (oZ (tN (z _ _ (sk fun bm ac=>(sk fun bn ad=> ?_)))))
 refine A2 [Is (PQ c 0),Is (B8 (y.1.kind)),Is (.bool (decide (((y.1.kind).toNat)<(1)))),Is (.bool (decide (((y.1.kind).toNat)<(1)))),Is (cond (!(decide (((y.1.kind).toNat)<(1)))) (PQ c 0) undef),Is (cond (!(decide (((y.1.kind).toNat)<(1)))) (B8 (y.1.kind)) undef),Is (cond (!(decide (((y.1.kind).toNat)<(1)))) (.bool (decide ((8)<((y.1.kind).toNat)))) undef),Is (.bool ((decide (((y.1.kind).toNat)<(1)))||(decide ((8)<((y.1.kind).toNat))))),Is (.bool ((decide (((y.1.kind).toNat)<(1)))||(decide ((8)<((y.1.kind).toNat))))),Is (cond (!((decide (((y.1.kind).toNat)<(1)))||(decide ((8)<((y.1.kind).toNat))))) (PQ c 1) undef),Is (cond (!((decide (((y.1.kind).toNat)<(1)))||(decide ((8)<((y.1.kind).toNat))))) (.int .i64 (y.1.session:Int)) undef),Is (cond (!((decide (((y.1.kind).toNat)<(1)))||(decide ((8)<((y.1.kind).toNat))))) (.bool (decide ((y.1.session:Int)<((0:Nat):Int)))) undef),Is (.bool (((decide (((y.1.kind).toNat)<(1)))||(decide ((8)<((y.1.kind).toNat))))||(decide ((y.1.session:Int)<((0:Nat):Int))))),Is (.bool (((decide (((y.1.kind).toNat)<(1)))||(decide ((8)<((y.1.kind).toNat))))||(decide ((y.1.session:Int)<((0:Nat):Int))))),Is (cond (!(((decide (((y.1.kind).toNat)<(1)))||(decide ((8)<((y.1.kind).toNat))))||(decide ((y.1.session:Int)<((0:Nat):Int))))) (PQ c 1) undef),Is (cond (!(((decide (((y.1.kind).toNat)<(1)))||(decide ((8)<((y.1.kind).toNat))))||(decide ((y.1.session:Int)<((0:Nat):Int))))) (.int .i64 (y.1.session:Int)) undef),Is (cond (!(((decide (((y.1.kind).toNat)<(1)))||(decide ((8)<((y.1.kind).toNat))))||(decide ((y.1.session:Int)<((0:Nat):Int))))) (.bool (decide (((2147483647:Nat):Int)<(y.1.session:Int)))) undef),Is (.bool ((((decide (((y.1.kind).toNat)<(1)))||(decide ((8)<((y.1.kind).toNat))))||(decide ((y.1.session:Int)<((0:Nat):Int))))||(decide (((2147483647:Nat):Int)<(y.1.session:Int))))),Is (.bool ((((decide (((y.1.kind).toNat)<(1)))||(decide ((8)<((y.1.kind).toNat))))||(decide ((y.1.session:Int)<((0:Nat):Int))))||(decide (((2147483647:Nat):Int)<(y.1.session:Int))))),Is (cond (!((((decide (((y.1.kind).toNat)<(1)))||(decide ((8)<((y.1.kind).toNat))))||(decide ((y.1.session:Int)<((0:Nat):Int))))||(decide (((2147483647:Nat):Int)<(y.1.session:Int))))) (.agg (msgC y).toArray) undef),Is (cond (!((((decide (((y.1.kind).toNat)<(1)))||(decide ((8)<((y.1.kind).toNat))))||(decide ((y.1.session:Int)<((0:Nat):Int))))||(decide (((2147483647:Nat):Int)<(y.1.session:Int))))) (.agg (msgC y).toArray) undef),fun x w' =>(!((((decide (((y.1.kind).toNat)<(1)))||(decide ((8)<((y.1.kind).toNat))))||(decide ((y.1.session:Int)<((0:Nat):Int))))||(decide (((2147483647:Nat):Int)<(y.1.session:Int)))))=true→(IsMsg (Cl y.1)) x w',Is (cond (!((((decide (((y.1.kind).toNat)<(1)))||(decide ((8)<((y.1.kind).toNat))))||(decide ((y.1.session:Int)<((0:Nat):Int))))||(decide (((2147483647:Nat):Int)<(y.1.session:Int))))) (.bool (Da y.1 (Cl y.1))) undef),Is (cond (!((((decide (((y.1.kind).toNat)<(1)))||(decide ((8)<((y.1.kind).toNat))))||(decide ((y.1.session:Int)<((0:Nat):Int))))||(decide (((2147483647:Nat):Int)<(y.1.session:Int))))) (.bool (!(Da y.1 (Cl y.1)))) undef),Is (.bool (((((decide (((y.1.kind).toNat)<(1)))||(decide ((8)<((y.1.kind).toNat))))||(decide ((y.1.session:Int)<((0:Nat):Int))))||(decide (((2147483647:Nat):Int)<(y.1.session:Int))))||(!(Da y.1 (Cl y.1)))))] (by kernel_rfl) [3,4,5,6,7,8,9,10,11,12,13,14,15,16,17,18,19,20,21,22,23,24,25,26,27] (by kernel_rfl) (by kernel_rfl) (L7 (B6 ⟨(Stab.may ((IsMsg.stab _))),(Fc trivial)⟩)) ?ae ?hQ1001
 case ae=>
  refine⟨?_,?_,?_,?_,?_,?_,?_,?_,?_,?_,?_,?_,?_,?_,?_,?_,?_,?_,?_,?_,?_,?_,?_,?_,?_,trivial⟩
  ·refine Aa rfl fun σ w1 hC h=> ?_
   have i:σ 1=PQ c 0:=(Af (h 1 (by decide))).trans rfl
   exact Yk.fieldAt H8 i ⟨Ext.refl _,rfl⟩
  ·refine Aa rfl fun σ w1 hC h=> ?_
   have e3:=Af (h 3 (by decide))
   exact Yk.cell1 u5 rfl e3 (Ab (eb hC f) (show(msgC y)[0]? =some (B8 (y.1.kind):Value)from Bv y)) ⟨Ext.refl _,rfl⟩
  ·refine Aa rfl fun σ w1 hC h=> ?_
   have e4:=Af (h 4 (by decide))
   exact Yk.eqI (a:=((y.1.kind).toNat:Nat)) (b:=(1:Nat)) e4 rfl (A0 _ _ _ _) ⟨Ext.refl _,rfl⟩
  ·refine Aa rfl fun σ w1 hC h=> ?_
   have e5:=Af (h 5 (by decide))
   exact Yk.move e5 ⟨Ext.refl _,rfl⟩
  ·refine AO 3 false 6 (G:= !(decide (((y.1.kind).toNat)<(1)))) rfl rfl (fun x _ (h:x = .bool (decide (((y.1.kind).toNat)<(1))))=>gF h) (fun hu_ _=>Bg hu_) fun hG σ w1 hC h=> ?_
   have i:σ 1=PQ c 0:=(Af (h 1 (by decide))).trans rfl
   exact Yk.fieldAt H8 i ⟨Ext.refl _,Bf hG⟩
  ·refine AO 3 false 6 (G:= !(decide (((y.1.kind).toNat)<(1)))) rfl rfl (fun x _ (h:x = .bool (decide (((y.1.kind).toNat)<(1))))=>gF h) (fun hu_ _=>Bg hu_) fun hG σ w1 hC h=> ?_
   have e7:=Af (h 7 (by decide))
   exact Yk.cell1 u5 rfl (mayT e7 hG) (Ab (eb hC f) (show(msgC y)[0]? =some (B8 (y.1.kind):Value)from Bv y)) ⟨Ext.refl _,Bf hG⟩
  ·refine AO 3 false 6 (G:= !(decide (((y.1.kind).toNat)<(1)))) rfl rfl (fun x _ (h:x = .bool (decide (((y.1.kind).toNat)<(1))))=>gF h) (fun hu_ _=>Bg hu_) fun hG σ w1 hC h=> ?_
   have e8:=Af (h 8 (by decide))
   exact Yk.eqI (a:=(((y.1.kind).toNat:Nat):Int)) (b:=((8:Nat):Int)) (mayT e8 hG) (vr (B8 (8)) rfl) (k_gtr _ .u8 ((y.1.kind).toNat) (8)) ⟨Ext.refl _,Bf hG⟩
  ·refine Aa rfl fun σ w1 hC h=> ?_
   have e6:=Af (h 6 (by decide))
   have e9:=Af (h 9 (by decide))
   exact Yk.pickOr e6 (vr (.bool (true)) rfl) (fun hA=>(mayT e9 (not_i hA))) ⟨Ext.refl _,rfl⟩
  ·refine Aa rfl fun σ w1 hC h=> ?_
   have am:=Af (h 10 (by decide))
   exact Yk.move am ⟨Ext.refl _,rfl⟩
  ·refine AO 8 false 11 (G:= !((decide (((y.1.kind).toNat)<(1)))||(decide ((8)<((y.1.kind).toNat))))) rfl rfl (fun x _ (h:x = .bool ((decide (((y.1.kind).toNat)<(1)))||(decide ((8)<((y.1.kind).toNat)))))=>gF h) (fun hu_ _=>Bg hu_) fun hG σ w1 hC h=> ?_
   have i:σ 1=PQ c 0:=(Af (h 1 (by decide))).trans rfl
   exact Yk.fieldAt LK i ⟨Ext.refl _,Bf hG⟩
  ·refine AO 8 false 11 (G:= !((decide (((y.1.kind).toNat)<(1)))||(decide ((8)<((y.1.kind).toNat))))) rfl rfl (fun x _ (h:x = .bool ((decide (((y.1.kind).toNat)<(1)))||(decide ((8)<((y.1.kind).toNat)))))=>gF h) (fun hu_ _=>Bg hu_) fun hG σ w1 hC h=> ?_
   have an:=Af (h 12 (by decide))
   exact Yk.cell1 FI rfl (mayT an hG) (Ab (eb hC f) (show(msgC y)[1]? =some (.int .i64 (y.1.session:Int):Value)from CU y)) ⟨Ext.refl _,Bf hG⟩
  ·refine AO 8 false 11 (G:= !((decide (((y.1.kind).toNat)<(1)))||(decide ((8)<((y.1.kind).toNat))))) rfl rfl (fun x _ (h:x = .bool ((decide (((y.1.kind).toNat)<(1)))||(decide ((8)<((y.1.kind).toNat)))))=>gF h) (fun hu_ _=>Bg hu_) fun hG σ w1 hC h=> ?_
   have ao:=Af (h 13 (by decide))
   exact Yk.eqI (mayT ao hG) (vr (NI 0) rfl) (Jz _ .i64 (y.1.session:Int) ((0:Nat):Int)) ⟨Ext.refl _,Bf hG⟩
  ·refine Aa rfl fun σ w1 hC h=> ?_
   have ap:=Af (h 11 (by decide))
   have aq:=Af (h 14 (by decide))
   exact Yk.pickOr ap (vr (.bool (true)) rfl) (fun hA=>(mayT aq (not_i hA))) ⟨Ext.refl _,rfl⟩
  ·refine Aa rfl fun σ w1 hC h=> ?_
   have ar:=Af (h 15 (by decide))
   exact Yk.move ar ⟨Ext.refl _,rfl⟩
  ·refine AO 13 false 16 (G:= !(((decide (((y.1.kind).toNat)<(1)))||(decide ((8)<((y.1.kind).toNat))))||(decide ((y.1.session:Int)<((0:Nat):Int))))) rfl rfl (fun x _ (h:x = .bool (((decide (((y.1.kind).toNat)<(1)))||(decide ((8)<((y.1.kind).toNat))))||(decide ((y.1.session:Int)<((0:Nat):Int)))))=>gF h) (fun hu_ _=>Bg hu_) fun hG σ w1 hC h=> ?_
   have i:σ 1=PQ c 0:=(Af (h 1 (by decide))).trans rfl
   exact Yk.fieldAt LK i ⟨Ext.refl _,Bf hG⟩
  ·refine AO 13 false 16 (G:= !(((decide (((y.1.kind).toNat)<(1)))||(decide ((8)<((y.1.kind).toNat))))||(decide ((y.1.session:Int)<((0:Nat):Int))))) rfl rfl (fun x _ (h:x = .bool (((decide (((y.1.kind).toNat)<(1)))||(decide ((8)<((y.1.kind).toNat))))||(decide ((y.1.session:Int)<((0:Nat):Int)))))=>gF h) (fun hu_ _=>Bg hu_) fun hG σ w1 hC h=> ?_
   have au:=Af (h 17 (by decide))
   exact Yk.cell1 FI rfl (mayT au hG) (Ab (eb hC f) (show(msgC y)[1]? =some (.int .i64 (y.1.session:Int):Value)from CU y)) ⟨Ext.refl _,Bf hG⟩
  ·refine AO 13 false 16 (G:= !(((decide (((y.1.kind).toNat)<(1)))||(decide ((8)<((y.1.kind).toNat))))||(decide ((y.1.session:Int)<((0:Nat):Int))))) rfl rfl (fun x _ (h:x = .bool (((decide (((y.1.kind).toNat)<(1)))||(decide ((8)<((y.1.kind).toNat))))||(decide ((y.1.session:Int)<((0:Nat):Int)))))=>gF h) (fun hu_ _=>Bg hu_) fun hG σ w1 hC h=> ?_
   have av:=Af (h 18 (by decide))
   exact Yk.eqI (mayT av hG) (vr (NI 2147483647) rfl) (JA _ .i64 (y.1.session:Int) ((2147483647:Nat):Int)) ⟨Ext.refl _,Bf hG⟩
  ·refine Aa rfl fun σ w1 hC h=> ?_
   have aw:=Af (h 16 (by decide))
   have ax:=Af (h 19 (by decide))
   exact Yk.pickOr aw (vr (.bool (true)) rfl) (fun hA=>(mayT ax (not_i hA))) ⟨Ext.refl _,rfl⟩
  ·refine Aa rfl fun σ w1 hC h=> ?_
   have ay:=Af (h 20 (by decide))
   exact Yk.move ay ⟨Ext.refl _,rfl⟩
  ·refine AO 18 false 21 (G:= !((((decide (((y.1.kind).toNat)<(1)))||(decide ((8)<((y.1.kind).toNat))))||(decide ((y.1.session:Int)<((0:Nat):Int))))||(decide (((2147483647:Nat):Int)<(y.1.session:Int))))) rfl rfl (fun x _ (h:x = .bool ((((decide (((y.1.kind).toNat)<(1)))||(decide ((8)<((y.1.kind).toNat))))||(decide ((y.1.session:Int)<((0:Nat):Int))))||(decide (((2147483647:Nat):Int)<(y.1.session:Int)))))=>gF h) (fun hu_ _=>Bg hu_) fun hG σ w1 hC h=> ?_
   have i:σ 1=PQ c 0:=(Af (h 1 (by decide))).trans rfl
   exact Yk.loadAll i (eb hC f) (Nr).choose_spec rfl (Au (msg_len y) Mr) ⟨Ext.refl _,Bf hG⟩
  ·refine AO 18 false 21 (G:= !((((decide (((y.1.kind).toNat)<(1)))||(decide ((8)<((y.1.kind).toNat))))||(decide ((y.1.session:Int)<((0:Nat):Int))))||(decide (((2147483647:Nat):Int)<(y.1.session:Int))))) rfl rfl (fun x _ (h:x = .bool ((((decide (((y.1.kind).toNat)<(1)))||(decide ((8)<((y.1.kind).toNat))))||(decide ((y.1.session:Int)<((0:Nat):Int))))||(decide (((2147483647:Nat):Int)<(y.1.session:Int)))))=>gF h) (fun hu_ _=>Bg hu_) fun hG σ w1 hC h=> ?_
   have i:σ 1=PQ c 0:=(Af (h 1 (by decide))).trans rfl
   exact Yk.loadAll i (eb hC f) (Nr).choose_spec rfl (Au (msg_len y) Mr) ⟨Ext.refl _,Bf hG⟩
  ·refine AO 18 false 21 (G:= !((((decide (((y.1.kind).toNat)<(1)))||(decide ((8)<((y.1.kind).toNat))))||(decide ((y.1.session:Int)<((0:Nat):Int))))||(decide (((2147483647:Nat):Int)<(y.1.session:Int))))) rfl rfl (fun x _ (h:x = .bool ((((decide (((y.1.kind).toNat)<(1)))||(decide ((8)<((y.1.kind).toNat))))||(decide ((y.1.session:Int)<((0:Nat):Int))))||(decide (((2147483647:Nat):Int)<(y.1.session:Int)))))=>gF h) (fun hu_ _=>FG hu_) fun hG σ w1 hC h=> ?_
   have az:=Af (h 23 (by decide))
   refine Yk.callA1 M4 (mayT az hG) ((NM _ y (MsgAt.mk (hmr.keep (hE.trans hC)) (hmw.keep (hE.trans hC)) (hmh.keep (hE.trans hC)) (hmb.keep (hE.trans hC)))).mono ?_)
   rintro e k ⟨X,rfl,hX1,hXm,hx⟩
   exact⟨_,rfl,hx,fun _=>⟨X,rfl,hX1,hXm⟩⟩
  ·refine AO 18 false 21 (G:= !((((decide (((y.1.kind).toNat)<(1)))||(decide ((8)<((y.1.kind).toNat))))||(decide ((y.1.session:Int)<((0:Nat):Int))))||(decide (((2147483647:Nat):Int)<(y.1.session:Int))))) rfl rfl (fun x _ (h:x = .bool ((((decide (((y.1.kind).toNat)<(1)))||(decide ((8)<((y.1.kind).toNat))))||(decide ((y.1.session:Int)<((0:Nat):Int))))||(decide (((2147483647:Nat):Int)<(y.1.session:Int)))))=>gF h) (fun hu_ _=>Bg hu_) fun hG σ w1 hC h=> ?_
   have a0:=Af (h 22 (by decide))
   have a1:(fun x w' =>(!((((decide (((y.1.kind).toNat)<(1)))||(decide ((8)<((y.1.kind).toNat))))||(decide ((y.1.session:Int)<((0:Nat):Int))))||(decide (((2147483647:Nat):Int)<(y.1.session:Int)))))=true→(IsMsg (Cl y.1)) x w') (σ 24) w1:=h 24 (by decide)
   obtain⟨X,hXe,hX1,hXm⟩:=(show IsMsg (Cl y.1) (σ 24) w1 from(a1 hG))
   refine Yk.callA2 M5 (mayT a0 hG) hXe ((Oq _ y X _ (MsgAt.mk (hmr.keep (hE.trans hC)) (hmw.keep (hE.trans hC)) (hmh.keep (hE.trans hC)) (hmb.keep (hE.trans hC))) hXm hL hX1).mono ?_)
   rintro e k ⟨rfl,hx⟩
   exact⟨_,rfl,hx,Bf hG⟩
  ·refine AO 18 false 21 (G:= !((((decide (((y.1.kind).toNat)<(1)))||(decide ((8)<((y.1.kind).toNat))))||(decide ((y.1.session:Int)<((0:Nat):Int))))||(decide (((2147483647:Nat):Int)<(y.1.session:Int))))) rfl rfl (fun x _ (h:x = .bool ((((decide (((y.1.kind).toNat)<(1)))||(decide ((8)<((y.1.kind).toNat))))||(decide ((y.1.session:Int)<((0:Nat):Int))))||(decide (((2147483647:Nat):Int)<(y.1.session:Int)))))=>gF h) (fun hu_ _=>Bg hu_) fun hG σ w1 hC h=> ?_
   have a2:=Af (h 25 (by decide))
   exact Yk.notB (mayT a2 hG) ⟨Ext.refl _,Bf hG⟩
  ·refine Aa rfl fun σ w1 hC h=> ?_
   have a3:=Af (h 21 (by decide))
   have a4:=Af (h 26 (by decide))
   exact Yk.pickOr a3 (vr (.bool (true)) rfl) (fun hA=>(mayT a4 (not_i hA))) ⟨Ext.refl _,rfl⟩
 intro a5 bo p he hf
 obtain⟨-,-,-,-,-,-,-,-,-,-,-,-,-,-,-,-,-,-,-,-,-,-,-,-,k27,-⟩:=hf
 obtain⟨j,g,q,-⟩:=he.hold [(0,_),(1,PQ c 0),(2, .bool (false))] ⟨j,rfl,rfl,trivial⟩ rfl
 clear he
 have hE:=hE.trans p
 have f:=eb p f
 have a6:a5 27 = .bool (((((decide (((y.1.kind).toNat)<(1)))||(decide ((8)<((y.1.kind).toNat))))||(decide ((y.1.session:Int)<((0:Nat):Int))))||(decide (((2147483647:Nat):Int)<(y.1.session:Int))))||(!(Da y.1 (Cl y.1)))):=k27
 clear k27
 refine tN (ad _ _ ?_)
 refine Bz (((((decide (((y.1.kind).toNat)<(1)))||(decide ((8)<((y.1.kind).toNat))))||(decide ((y.1.session:Int)<((0:Nat):Int))))||(decide (((2147483647:Nat):Int)<(y.1.session:Int))))||(!(Da y.1 (Cl y.1)))) a6 (fun l=> ?_) (fun l=> ?_)
 ·have h1c:(Li y.1|| !Da y.1 (Cl y.1))=true:=l
  refine sk fun bp a7=>(wt (oA rfl (oZ (tN (a7 _ _ (Ao (Ap (An (fn:=Tryd.f20) _ rfl [.bool (false)] (.bool (false)) rfl ⟨rfl,trivial⟩ ?_))))))))
  refine⟨?_,hE⟩
  rw[←Fr];unfold E9;rw[h1c];rfl
 have h1c:(Li y.1|| !Da y.1 (Cl y.1))=false:=l
 refine Ak (tN (ac _ _ (sk fun bq a8=>(sk fun br a9=>(wt (oS rfl (Yk.fieldAt H0 g (oS rfl (Yk.cell1 CJ rfl (vr (PQ c 2) rfl) (Ab f (show(msgC y)[2]? =some (y.2.refs:Value)from BF y)) (oS rfl (Yk.callA1 M6 (vr y.2.refs rfl) ((JX _ _ y.1.refs (hmr.keep hE) (by have:=hL.refs;omega) hL.names).mono ?_))))))))))))
 rintro e bs ⟨rfl,r⟩
 refine⟨_,rfl,?_⟩
 have hE:=hE.trans r
 have f:=eb r f
 refine oS rfl (Yk.notB (vr (.bool (BG y.1.refs)) rfl) (oM rfl (Ad (PQ c 3) rfl rfl (gF (vr (.bool (!(BG y.1.refs))) rfl)) (fun hG20=>Yk.fieldAt H1 g ⟨rfl,rfl⟩) (Ad (y.2.wants) rfl rfl (gF (vr (.bool (!(BG y.1.refs))) rfl)) (fun hG21=>Yk.cell1 Bw rfl (mayT (vr (cond (!(!(BG y.1.refs))) (PQ c 3) undef) rfl) hG21) (Ab f (show(msgC y)[3]? =some (y.2.wants:Value)from DE y)) ⟨rfl,rfl⟩) (Bd (.bool (BT y.1.wants)) rfl rfl (gF (vr (.bool (!(BG y.1.refs))) rfl)) (fun hG22=>Yk.callA1 Ja (mayT (vr (cond (!(!(BG y.1.refs))) (y.2.wants) undef) rfl) hG22) ((refWset_any _ _ y.1.wants (hmw.keep hE) (by have:=hL.wants;omega)).mono (by rintro e k ⟨rfl,hx⟩;exact⟨_,rfl,rfl,hx⟩))) fun bt s=> ?_)))))
 have hE:=hE.trans s
 have f:=eb s f
 refine Ad (.bool (!(BT y.1.wants))) rfl rfl (gF (vr (.bool (!(BG y.1.refs))) rfl)) (fun hG26=>Yk.notB (mayT (vr (cond (!(!(BG y.1.refs))) (.bool (BT y.1.wants)) undef) rfl) hG26) ⟨rfl,rfl⟩) (oS rfl (Yk.pickOrN (vr (.bool (!(BG y.1.refs))) rfl) (vr (.bool (true)) rfl) (fun hA=>(mayT (vr (cond (!(!(BG y.1.refs))) (.bool (!(BT y.1.wants))) undef) rfl) (not_i hA))) fun bb27 hbb28=>(oM rfl (Ad (PQ c 4) rfl rfl (gF (vr (.bool (bb27)) rfl)) (fun hG29=>Yk.fieldAt H2 g ⟨rfl,rfl⟩) (Ad (y.2.haves) rfl rfl (gF (vr (.bool (bb27)) rfl)) (fun hG30=>Yk.cell1 Bw rfl (mayT (vr (cond (!bb27) (PQ c 4) undef) rfl) hG30) (Ab f (show(msgC y)[4]? =some (y.2.haves:Value)from DF y)) ⟨rfl,rfl⟩) (Bd (.bool (BT y.1.haves)) rfl rfl (gF (vr (.bool (bb27)) rfl)) (fun hG31=>Yk.callA1 Ja (mayT (vr (cond (!bb27) (y.2.haves) undef) rfl) hG31) ((refWset_any _ _ y.1.haves (hmh.keep hE) (by have:=hL.haves;omega)).mono (by rintro e k ⟨rfl,hx⟩;exact⟨_,rfl,rfl,hx⟩))) fun bu t=> ?_))))))
 have hE:=hE.trans t
 have f:=eb t f
 refine Ad (.bool (!(BT y.1.haves))) rfl rfl (gF (vr (.bool (bb27)) rfl)) (fun hG35=>Yk.notB (mayT (vr (cond (!bb27) (.bool (BT y.1.haves)) undef) rfl) hG35) ⟨rfl,rfl⟩) (oS rfl (Yk.pickOrN (vr (.bool (bb27)) rfl) (vr (.bool (true)) rfl) (fun hA=>(mayT (vr (cond (!bb27) (.bool (!(BT y.1.haves))) undef) rfl) (not_i hA))) fun bb36 hbb37=>(oM rfl (Ad (PQ c 5) rfl rfl (gF (vr (.bool (bb36)) rfl)) (fun hG38=>Yk.fieldAt H3 g ⟨rfl,rfl⟩) (Ad (.int .i64 (y.1.size:Int)) rfl rfl (gF (vr (.bool (bb36)) rfl)) (fun hG39=>Yk.cell1 FI rfl (mayT (vr (cond (!bb36) (PQ c 5) undef) rfl) hG39) (Ab f (show(msgC y)[5]? =some (.int .i64 (y.1.size:Int):Value)from Dq y)) ⟨rfl,rfl⟩) (Ad (.bool (decide ((y.1.size:Int)<((0:Nat):Int)))) rfl rfl (gF (vr (.bool (bb36)) rfl)) (fun hG40=>Yk.eqI (mayT (vr (cond (!bb36) (.int .i64 (y.1.size:Int)) undef) rfl) hG40) (vr (NI 0) rfl) (Jz _ .i64 (y.1.size:Int) ((0:Nat):Int)) ⟨rfl,rfl⟩) (oS rfl (Yk.pickOrN (vr (.bool (bb36)) rfl) (vr (.bool (true)) rfl) (fun hA=>(mayT (vr (cond (!bb36) (.bool (decide ((y.1.size:Int)<((0:Nat):Int)))) undef) rfl) (not_i hA))) fun bb41 hbb42=>(oM rfl (Ad (PQ c 5) rfl rfl (gF (vr (.bool (bb41)) rfl)) (fun hG43=>Yk.fieldAt H3 g ⟨rfl,rfl⟩) (Ad (.int .i64 (y.1.size:Int)) rfl rfl (gF (vr (.bool (bb41)) rfl)) (fun hG44=>Yk.cell1 FI rfl (mayT (vr (cond (!bb41) (PQ c 5) undef) rfl) hG44) (Ab f (show(msgC y)[5]? =some (.int .i64 (y.1.size:Int):Value)from Dq y)) ⟨rfl,rfl⟩) (Ad (.bool (decide (((1048576:Nat):Int)<(y.1.size:Int)))) rfl rfl (gF (vr (.bool (bb41)) rfl)) (fun hG45=>Yk.eqI (mayT (vr (cond (!bb41) (.int .i64 (y.1.size:Int)) undef) rfl) hG45) (vr (NI 1048576) rfl) (JA _ .i64 (y.1.size:Int) ((1048576:Nat):Int)) ⟨rfl,rfl⟩) (oS rfl (Yk.pickOrN (vr (.bool (bb41)) rfl) (vr (.bool (true)) rfl) (fun hA=>(mayT (vr (cond (!bb41) (.bool (decide (((1048576:Nat):Int)<(y.1.size:Int)))) undef) rfl) (not_i hA))) fun bb46 hbb47=>(oM rfl (Ad (PQ c 6) rfl rfl (gF (vr (.bool (bb46)) rfl)) (fun hG48=>Yk.fieldAt H4 g ⟨rfl,rfl⟩) (Ad (.int .i64 (y.1.at_:Int)) rfl rfl (gF (vr (.bool (bb46)) rfl)) (fun hG49=>Yk.cell1 FI rfl (mayT (vr (cond (!bb46) (PQ c 6) undef) rfl) hG49) (Ab f (show(msgC y)[6]? =some (.int .i64 (y.1.at_:Int):Value)from Dr y)) ⟨rfl,rfl⟩) (Ad (.bool (decide ((y.1.at_:Int)<((0:Nat):Int)))) rfl rfl (gF (vr (.bool (bb46)) rfl)) (fun hG50=>Yk.eqI (mayT (vr (cond (!bb46) (.int .i64 (y.1.at_:Int)) undef) rfl) hG50) (vr (NI 0) rfl) (Jz _ .i64 (y.1.at_:Int) ((0:Nat):Int)) ⟨rfl,rfl⟩) ?_))))))))))))))))))
 refine oS rfl (Yk.pickOrN (vr (.bool (bb46)) rfl) (vr (.bool (true)) rfl) (fun hA=>(mayT (vr (cond (!bb46) (.bool (decide ((y.1.at_:Int)<((0:Nat):Int)))) undef) rfl) (not_i hA))) fun bb51 hbb52=>(oM rfl (Ad (PQ c 6) rfl rfl (gF (vr (.bool (bb51)) rfl)) (fun hG53=>Yk.fieldAt H4 g ⟨rfl,rfl⟩) (Ad (.int .i64 (y.1.at_:Int)) rfl rfl (gF (vr (.bool (bb51)) rfl)) (fun hG54=>Yk.cell1 FI rfl (mayT (vr (cond (!bb51) (PQ c 6) undef) rfl) hG54) (Ab f (show(msgC y)[6]? =some (.int .i64 (y.1.at_:Int):Value)from Dr y)) ⟨rfl,rfl⟩) (Ad (.bool (decide (((1048576:Nat):Int)<(y.1.at_:Int)))) rfl rfl (gF (vr (.bool (bb51)) rfl)) (fun hG55=>Yk.eqI (mayT (vr (cond (!bb51) (.int .i64 (y.1.at_:Int)) undef) rfl) hG55) (vr (NI 1048576) rfl) (JA _ .i64 (y.1.at_:Int) ((1048576:Nat):Int)) ⟨rfl,rfl⟩) (oS rfl (Yk.pickOrN (vr (.bool (bb51)) rfl) (vr (.bool (true)) rfl) (fun hA=>(mayT (vr (cond (!bb51) (.bool (decide (((1048576:Nat):Int)<(y.1.at_:Int)))) undef) rfl) (not_i hA))) fun bb56 hbb57=>(oM rfl (Ad (PQ c 106) rfl rfl (gF (vr (.bool (bb56)) rfl)) (fun hG58=>Yk.fieldAt G9 g ⟨rfl,rfl⟩) (Ad (.int .i64 (y.1.code:Int)) rfl rfl (gF (vr (.bool (bb56)) rfl)) (fun hG59=>Yk.cell1 J1 rfl (mayT (vr (cond (!bb56) (PQ c 106) undef) rfl) hG59) (Ab f (show(msgC y)[106]? =some (.int .i64 (y.1.code:Int):Value)from DQ y)) ⟨rfl,rfl⟩) (Ad (.bool (decide ((y.1.code:Int)<((0:Nat):Int)))) rfl rfl (gF (vr (.bool (bb56)) rfl)) (fun hG60=>Yk.eqI (mayT (vr (cond (!bb56) (.int .i64 (y.1.code:Int)) undef) rfl) hG60) (vr (NI 0) rfl) (Jz _ .i64 (y.1.code:Int) ((0:Nat):Int)) ⟨rfl,rfl⟩) (oS rfl (Yk.pickOrN (vr (.bool (bb56)) rfl) (vr (.bool (true)) rfl) (fun hA=>(mayT (vr (cond (!bb56) (.bool (decide ((y.1.code:Int)<((0:Nat):Int)))) undef) rfl) (not_i hA))) fun bb61 hbb62=>(oM rfl (Ad (PQ c 106) rfl rfl (gF (vr (.bool (bb61)) rfl)) (fun hG63=>Yk.fieldAt G9 g ⟨rfl,rfl⟩) (Ad (.int .i64 (y.1.code:Int)) rfl rfl (gF (vr (.bool (bb61)) rfl)) (fun hG64=>Yk.cell1 J1 rfl (mayT (vr (cond (!bb61) (PQ c 106) undef) rfl) hG64) (Ab f (show(msgC y)[106]? =some (.int .i64 (y.1.code:Int):Value)from DQ y)) ⟨rfl,rfl⟩) (Ad (.bool (decide (((22:Nat):Int)<(y.1.code:Int)))) rfl rfl (gF (vr (.bool (bb61)) rfl)) (fun hG65=>Yk.eqI (mayT (vr (cond (!bb61) (.int .i64 (y.1.code:Int)) undef) rfl) hG65) (vr (NI 22) rfl) (JA _ .i64 (y.1.code:Int) ((22:Nat):Int)) ⟨rfl,rfl⟩) (oS rfl (Yk.pickOrN (vr (.bool (bb61)) rfl) (vr (.bool (true)) rfl) (fun hA=>(mayT (vr (cond (!bb61) (.bool (decide (((22:Nat):Int)<(y.1.code:Int)))) undef) rfl) (not_i hA))) fun bb66 hbb67=> ?_)))))))))))))))))))
 refine Bp [(0, .agg (msgC y).toArray),(1,PQ c 0),(2, .bool (false)),(73, .bool (bb66))] ⟨j,g,q,rfl,trivial⟩ fun bv ⟨j,g,q,ba,_⟩=>(tN (a9 _ _ ?_))
 refine Bz (bb66) ba (fun m=> ?_) (fun m=> ?_)
 ·subst hbb28 hbb37 hbb42 hbb47 hbb52 hbb57 hbb62 hbb67
  have h2c:M2 y.1=true:=m
  refine sk fun bw bb=>(wt (oA rfl (oZ (tN (bb _ _ (Ao (Ap (An (fn:=Tryd.f20) _ rfl [.bool (false)] (.bool (false)) rfl ⟨rfl,trivial⟩ ?_))))))))
  refine⟨?_,hE⟩
  rw[←Fr];unfold E9;rw[h1c,h2c];rfl
 subst hbb28 hbb37 hbb42 hbb47 hbb52 hbb57 hbb62 hbb67
 have h2c:M2 y.1=false:=m
 refine Ak (tN (a8 _ _ (sk fun bx bc=>(sk fun bz bd=>(wt (oS rfl (Yk.fieldAt H8 g (oS rfl (Yk.cell1 u5 rfl (vr (PQ c 0) rfl) (Ab f (show(msgC y)[0]? =some (B8 (y.1.kind):Value)from Bv y)) (oS rfl (Yk.eqI (a:=((y.1.kind).toNat:Nat)) (b:=(6:Nat)) rfl rfl (k_eql _ _ _ _) (oM rfl (Ad (PQ c 39) rfl rfl (gT (vr (.bool (decide (((y.1.kind).toNat:Nat)=(6)))) rfl)) (fun hG72=>Yk.fieldAt FT g ⟨rfl,rfl⟩) (Ad (y.2.bytes) rfl rfl (gT (vr (.bool (decide (((y.1.kind).toNat:Nat)=(6)))) rfl)) (fun hG73=>Yk.cell1 El rfl (mayT (vr (cond ((decide (((y.1.kind).toNat:Nat)=(6)))) (PQ c 39) undef) rfl) hG73) (Ab f (show(msgC y)[39]? =some (y.2.bytes:Value)from Ds y)) ⟨rfl,rfl⟩) (Ad (NI ((y.1.bytes:List UInt8).length)) rfl rfl (gT (vr (.bool (decide (((y.1.kind).toNat:Nat)=(6)))) rfl)) (fun hG74=>Yk.lenRB El (RB.of (hmb.keep hE) (mayT (vr (cond ((decide (((y.1.kind).toNat:Nat)=(6)))) (y.2.bytes) undef) rfl) hG74)) ⟨rfl,rfl⟩) (Ad (.bool (decide (((y.1.bytes:List UInt8).length)<(1)))) rfl rfl (gT (vr (.bool (decide (((y.1.kind).toNat:Nat)=(6)))) rfl)) (fun hG75=>Yk.eqI (a:=(((y.1.bytes:List UInt8).length:Nat):Int)) (b:=((1:Nat):Int)) (mayT (vr (cond ((decide (((y.1.kind).toNat:Nat)=(6)))) (NI ((y.1.bytes:List UInt8).length)) undef) rfl) hG75) (vr (NI 1) rfl) (A0 _ .i64 ((y.1.bytes:List UInt8).length) (1)) ⟨rfl,rfl⟩) (Ad (.bool (decide (((y.1.bytes:List UInt8).length)<(1)))) rfl rfl (gT (vr (.bool (decide (((y.1.kind).toNat:Nat)=(6)))) rfl)) (fun hG76=>Yk.move (mayT (vr (cond ((decide (((y.1.kind).toNat:Nat)=(6)))) (.bool (decide (((y.1.bytes:List UInt8).length)<(1)))) undef) rfl) hG76) ⟨rfl,rfl⟩) (Ad (PQ c 39) rfl rfl (Br (vr (cond ((decide (((y.1.kind).toNat:Nat)=(6)))) (.bool (decide (((y.1.bytes:List UInt8).length)<(1)))) undef) rfl)) (fun hG77=>Yk.fieldAt FT g ⟨rfl,rfl⟩) (Ad (y.2.bytes) rfl rfl (Br (vr (cond ((decide (((y.1.kind).toNat:Nat)=(6)))) (.bool (decide (((y.1.bytes:List UInt8).length)<(1)))) undef) rfl)) (fun hG78=>Yk.cell1 El rfl (mayT (vr (cond ((decide (((y.1.kind).toNat:Nat)=(6)))&& !(decide (((y.1.bytes:List UInt8).length)<(1)))) (PQ c 39) undef) rfl) hG78) (Ab f (show(msgC y)[39]? =some (y.2.bytes:Value)from Ds y)) ⟨rfl,rfl⟩) ?_)))))))))))))))))))
 refine Ad (NI ((y.1.bytes:List UInt8).length)) rfl rfl (Br (vr (cond ((decide (((y.1.kind).toNat:Nat)=(6)))) (.bool (decide (((y.1.bytes:List UInt8).length)<(1)))) undef) rfl)) (fun hG79=>Yk.lenRB El (RB.of (hmb.keep hE) (mayT (vr (cond ((decide (((y.1.kind).toNat:Nat)=(6)))&& !(decide (((y.1.bytes:List UInt8).length)<(1)))) (y.2.bytes) undef) rfl) hG79)) ⟨rfl,rfl⟩) (Ad (.bool (decide ((256)<((y.1.bytes:List UInt8).length)))) rfl rfl (Br (vr (cond ((decide (((y.1.kind).toNat:Nat)=(6)))) (.bool (decide (((y.1.bytes:List UInt8).length)<(1)))) undef) rfl)) (fun hG80=>Yk.eqI (a:=(((y.1.bytes:List UInt8).length:Nat):Int)) (b:=((256:Nat):Int)) (mayT (vr (cond ((decide (((y.1.kind).toNat:Nat)=(6)))&& !(decide (((y.1.bytes:List UInt8).length)<(1)))) (NI ((y.1.bytes:List UInt8).length)) undef) rfl) hG80) (vr (NI 256) rfl) (k_gtr _ .i64 ((y.1.bytes:List UInt8).length) (256)) ⟨rfl,rfl⟩) (Bt ((decide (((y.1.bytes:List UInt8).length)<(1)))||(decide ((256)<((y.1.bytes:List UInt8).length)))) rfl rfl (gT (vr (.bool (decide (((y.1.kind).toNat:Nat)=(6)))) rfl)) (fun hG81=>Yk.pickOr (mayT (vr (cond ((decide (((y.1.kind).toNat:Nat)=(6)))) (.bool (decide (((y.1.bytes:List UInt8).length)<(1)))) undef) rfl) hG81) (vr (.bool (true)) rfl) (fun hA=>(mayT (vr (cond ((decide (((y.1.kind).toNat:Nat)=(6)))&& !(decide (((y.1.bytes:List UInt8).length)<(1)))) (.bool (decide ((256)<((y.1.bytes:List UInt8).length)))) undef) rfl) (Cc hG81 (not_i hA)))) ⟨rfl,rfl⟩) fun bb82 hbb83=>(oS rfl (Yk.pickAndN (vr (.bool (decide (((y.1.kind).toNat:Nat)=(6)))) rfl) (fun hA=>(mayT (vr (cond ((decide (((y.1.kind).toNat:Nat)=(6)))) (.bool (bb82)) undef) rfl) hA)) (vr (.bool (false)) rfl) fun bb84 hbb85=>(oZ (tN (bd _ _ ?_)))))))
 refine Bz (bb84) (vr (.bool (bb84)) rfl) (fun n=> ?_) (fun n=> ?_)
 ·subst hbb83 hbb85
  have h3c:M3 y.1=true:=n
  refine sk fun b0 be=>(wt (oA rfl (oZ (tN (be _ _ (Ao (Ap (An (fn:=Tryd.f20) _ rfl [.bool (false)] (.bool (false)) rfl ⟨rfl,trivial⟩ ?_))))))))
  refine⟨?_,hE⟩
  rw[←Fr];unfold E9;rw[h1c,h2c,h3c];rfl
 subst hbb83 hbb85
 have h3c:M3 y.1=false:=n
 refine Ak (tN (bc _ _ (sk fun b1 bf=>(wt (oS rfl (Yk.fieldAt H8 g (oS rfl (Yk.cell1 u5 rfl (vr (PQ c 0) rfl) (Ab f (show(msgC y)[0]? =some (B8 (y.1.kind):Value)from Bv y)) (oS rfl (Yk.eqI (a:=((y.1.kind).toNat:Nat)) (b:=(7:Nat)) rfl rfl (Ci _ _ _ _) (oM rfl (Ad (PQ c 40) rfl rfl (gF (vr (.bool (decide (((y.1.kind).toNat:Nat)≠(7)))) rfl)) (fun hG88=>Yk.fieldAt H7 g ⟨rfl,rfl⟩) (Ad (St (y.1.name)) rfl rfl (gF (vr (.bool (decide (((y.1.kind).toNat:Nat)≠(7)))) rfl)) (fun hG89=>Yk.cell1 CD rfl (mayT (vr (cond (!(decide (((y.1.kind).toNat:Nat)≠(7)))) (PQ c 40) undef) rfl) hG89) (Ab f (show(msgC y)[40]? =some (St (y.1.name):Value)from Ee y)) ⟨rfl,rfl⟩) (Bd (.bool (nameB y.1.name)) rfl rfl (gF (vr (.bool (decide (((y.1.kind).toNat:Nat)≠(7)))) rfl)) (fun hG90=>Yk.callA1 Np (mayT (vr (cond (!(decide (((y.1.kind).toNat:Nat)≠(7)))) (St (y.1.name)) undef) rfl) hG90) ((G2 _ y.1.name (by have:=hL.name;omega)).mono (by rintro e k ⟨rfl,hx⟩;exact⟨_,rfl,rfl,hx⟩))) fun b2 u=> ?_))))))))))))))
 have hE:=hE.trans u
 have f:=eb u f
 refine Ad (.bool (nameB y.1.name)) rfl rfl (gF (vr (.bool (decide (((y.1.kind).toNat:Nat)≠(7)))) rfl)) (fun hG94=>Yk.move (mayT (vr (cond (!(decide (((y.1.kind).toNat:Nat)≠(7)))) (.bool (nameB y.1.name)) undef) rfl) hG94) ⟨rfl,rfl⟩) (Ad (PQ c 73) rfl rfl (geT (vr (cond (!(decide (((y.1.kind).toNat:Nat)≠(7)))) (.bool (nameB y.1.name)) undef) rfl)) (fun hG95=>Yk.fieldAt G8 g ⟨rfl,rfl⟩) (Ad (AB y.1.new.1) rfl rfl (geT (vr (cond (!(decide (((y.1.kind).toNat:Nat)≠(7)))) (.bool (nameB y.1.name)) undef) rfl)) (fun hG96=>Yk.loadPR (PR.blk f (C1 y) (Dd y) (mayT (vr (cond ((!(decide (((y.1.kind).toNat:Nat)≠(7))))&&(nameB y.1.name)) (PQ c 73) undef) rfl) hG96)) NV rfl (Aw y.1.new.2) ⟨rfl,rfl⟩) (Bd (.bool (zeroB y.1.new)) rfl rfl (geT (vr (cond (!(decide (((y.1.kind).toNat:Nat)≠(7)))) (.bool (nameB y.1.name)) undef) rfl)) (fun hG97=>Yk.callA1 Hk (mayT (vr (cond ((!(decide (((y.1.kind).toNat:Nat)≠(7))))&&(nameB y.1.name)) (AB y.1.new.1) undef) rfl) hG97) ((Ei _ y.1.new).mono (by rintro e k ⟨rfl,hx⟩;exact⟨_,rfl,rfl,hx⟩))) fun b3 bg=> ?_)))
 have hE:=hE.trans bg
 refine Ad (.bool (!(zeroB y.1.new))) rfl rfl (geT (vr (cond (!(decide (((y.1.kind).toNat:Nat)≠(7)))) (.bool (nameB y.1.name)) undef) rfl)) (fun hG101=>Yk.notB (mayT (vr (cond ((!(decide (((y.1.kind).toNat:Nat)≠(7))))&&(nameB y.1.name)) (.bool (zeroB y.1.new)) undef) rfl) hG101) ⟨rfl,rfl⟩) (Bt ((nameB y.1.name)&&(!(zeroB y.1.new))) rfl rfl (gF (vr (.bool (decide (((y.1.kind).toNat:Nat)≠(7)))) rfl)) (fun hG102=>Yk.pickAnd (mayT (vr (cond (!(decide (((y.1.kind).toNat:Nat)≠(7)))) (.bool (nameB y.1.name)) undef) rfl) hG102) (fun hA=>(mayT (vr (cond ((!(decide (((y.1.kind).toNat:Nat)≠(7))))&&(nameB y.1.name)) (.bool (!(zeroB y.1.new))) undef) rfl) (Cc hG102 hA))) (vr (.bool (false)) rfl) ⟨rfl,rfl⟩) fun bb103 hbb104=>(oS rfl (Yk.pickOrN (vr (.bool (decide (((y.1.kind).toNat:Nat)≠(7)))) rfl) (vr (.bool (true)) rfl) (fun hA=>(mayT (vr (cond (!(decide (((y.1.kind).toNat:Nat)≠(7)))) (.bool (bb103)) undef) rfl) (not_i hA))) fun bb105 hbb106=>(oA rfl (oZ (tN (bf _ _ (Ao (An (fn:=Tryd.f20) _ rfl [.bool (bb105)] (.bool (bb105)) rfl ⟨rfl,trivial⟩ ?_)))))))))
 subst hbb104 hbb106
 refine⟨?_,hE⟩
 rw[←Fr];unfold E9;rw[h1c,h2c,h3c];rfl
open Go.RowKit
section
variable {P : Program} {n : Nat} {ρ : As} {w : World} {Q : Cg}
def Kr(B:Nat)(cs:List Nat)(m:Nat):World→World→Prop:=bif cs.contains m then Below B else Ext
def lsOk(l:List Oper)(cs:List Nat)(ks ls:Nat→List Nat):Bool:=cs.all fun m=>(ls m).all fun i=>(ks m).contains i||Nat.beq i m||((A7 l []).getD i 0).testBit m
def AllCh(S:World→World→Prop)(ls:Nat→List Nat)(Φs:List Bl):List Nat→Prop
  | []=>True
  | m :: r=>AllStabX S (ls m) 0 Φs∧AllCh S ls Φs r
theorem AllCh.get{S:World→World→Prop}{ls:Nat→List Nat}{Φs:List Bl}:∀(cs:List Nat),AllCh S ls Φs cs→∀m,cs.contains m=true→AllStabX S (ls m) 0 Φs
  | [],_,m,h=>by simp at h
  | c :: r,h,m,hm=>by
    by_cases e:m=c
    · subst e;exact h.1
    · exact AllCh.get r h.2 m (by simpa [e] using hm)
theorem IA{l:List Oper}(B:Nat)(hB:B≤w.heap.size)(cs:List Nat)(ks ls:Nat→List Nat)(Φs:List Bl){id:Nat}(hm:P.follows .mixedOrders=true)(ds:List Tmp)(hg:Cw l n=true)(hkl:CB l ks=true)(hds:slotsW l=ds) 
    (hls:lsOk l cs ks ls=true) (hgc:(cs.all fun m=>((l[m]?).bind (·.guard)).isNone)=true) (hst:AllStab Ext Φs) (hsB:AllCh (Below B) ls Φs cs)
    (hs:StepsF P l (fun _=>Below B w) (Kr B cs) (A8 Φs) ρ 0 l)
    (hQ:∀(ρ' :As) w',Below B w w' →EndF ds ρ ρ' →BC l ks (A8 Φs) ρ' w' ds→Q .normal ρ' w'):Ce P n (.region id l.toArray true) Q ρ w:=by
  have step:∀m a b,Below B w a→Kr B cs m a b→Below B w b:=fun m a b h k=>by
    unfold Kr at k
    cases hc:cs.contains m <;> rw[hc]at k
    · exact Below.trans h (Below.mono k (Nat.le_trans hB h.size))
    · exact Below.trans h k
  intro a ha
  obtain⟨T,df⟩:=a
  have hz:T.size=n:=ha.size
  subst hz
  refine FB ks (fun _=>Below B w) (fun _ w' =>Below B w w') _ (A8 Φs) hm T df hg hkl ds hds (fun m i _ _ _ _ w1 w' hc hr=>step m _ _ hc hr) (fun m listed w1 w' _ _ _ _ hE hR=>step m _ _ hE hR) (fun m i hm' hi hni hne hbit v w1 w' h hr=> ?_) (fun m o w1 ho hgo=> ?_) (fun _ _=>(Below.refl _ _).drew) (Below.refl _ _).drew (StepsF.ok ha.get l 0 hs) (fun u listed w' hall hE hf=> ?_)
  · unfold Kr at hr
    cases hc:cs.contains m <;> rw[hc]at hr
    · exact hst.get Φs i v w1 w' h hr
    · refine(AllCh.get cs hsB m hc).get Φs 0 i ?_ v w1 w' h hr
      rw[Nat.zero_add]
      intro hmem
      unfold lsOk at hls
      have h1:=List.all_eq_true.1 (List.all_eq_true.1 hls m (by simpa using hc)) i hmem
      simp only[Bool.or_eq_true]at h1
      rcases h1 with (h1 | h1) | h1
      · exact hni (by simpa using h1)
      · exact hne (Nat.eq_of_beq_eq_true h1)
      · rw[h1]at hbit
        cases hbit
  · unfold Kr
    cases hc:cs.contains m
    · exact Ext.refl w1
    · have:=List.all_eq_true.1 hgc m (by simpa using hc)
      rw[ho]at this
      simp only[Option.bind_some,Option.isNone_iff_eq_none]at this
      rw[this]at hgo
      cases hgo
  · have hw:=G1 ha.get ds (IH hg ds hds) u
    refine⟨fun t=>if t∈ds then u t else ρ t,⟨by rw[DN],ha.defers,hw⟩,hQ _ w' hE ⟨fun t ht=>if_neg (by simpa using ht)⟩ ?_⟩
    have key:∀es:List Tmp,(∀d∈es,d∈ds)→BC l ks (A8 Φs) u w' es→BC l ks (A8 Φs) (fun t=>if t∈ds then u t else ρ t) w' es:=by
      intro es
      induction es with
      | nil=>exact fun _ _=>trivial
      | cons d es ih=>
        intro hm h
        refine⟨?_,ih (fun x hx=>hm x (by simp[hx])) h.2⟩
        have:=h.1
        simp only[if_pos (hm d (by simp))]
        exact this
    exact key ds (fun _ h=>h) hf
end
end Go.Proofs.YtmonlobfofkbdaaDoor
