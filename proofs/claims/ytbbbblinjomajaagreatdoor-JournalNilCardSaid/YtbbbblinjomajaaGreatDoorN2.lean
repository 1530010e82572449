/- Part 2 of what stands behind these statements: laws and walks of the functions that are reached. Conditions: those that each theorem names. -/
import Derived.Test.YtbbbblinjomajaaGreatDoorN1
set_option linter.unusedVariables false
set_option linter.unusedSimpArgs false
namespace Go.Proofs.YtbbbblinjomajaaGreatDoor
open _root_.Go renaming TypeId->AbC,binOp->Ace,IntKind->AcJ,World->Abw,Program->AbQ,Value->Abv,Edge->Acn,Operand->AbG,MapEntry->AdR
open _root_.BitVec renaming ofNat->Ad3,toNat_ofNat->AeD
open _root_.Nat renaming mod_eq_of_lt->AeO,min_eq_left->Ad9,le_refl->AbA,lt_of_le_of_lt->Adv,and_le_right->Adt,pow_le_pow_right->Adf,mul_comm->Afw,mul_le_mul->Ae8,min->Ad7,le_of_eq->Afy,zero_le->AbT,le_trans->Abz,zero_add->Adg,add_mul->AcQ,add_sub_cancel_left->AdD,not_lt_zero->AcN,zero_mul->Ad4,add_zero->AeU,mul_le_mul_right->AdT,min_def->Af2
open _root_.Go.Value renaming int->AdK,slice->AbM,ownBlock->Acf,bool->Ac5
open _root_.Int renaming toNat_natCast->Ab2
open _root_.Go.Sem renaming run_bind->AbF,run_pure->AbH
open _root_.Go.Result renaming andThen_ok->AbE,andThen->Acm
open _root_.Go.RowKit.Below renaming refl->Acr
open _root_.Go.Instr renaming next->Aep,lookup->AgB,mapUpdate->AfS,build->Acy,buildSlice->Ab4,sliceAt->AdP
open _root_.Array renaming getElem?_eq_some_iff->Acj,length_toList->Ac2,getElem?_setIfInBounds->Adm
open _root_.Option renaming map_eq_some_iff->Adp,map_some->AcR,map_none->Ado
open _root_.Go.Lib renaming uvarint->AbX,hid->Ac8,byteCells->Aby,byteCells_length->AbK
open _root_.List renaming cons_append->Ab5,length_drop->AbV,take_of_length_le->Acb,eq_nil_of_length_eq_zero->Acp,drop_eq_getElem_cons->Adw,replicate->AcB,length_replicate->Ach,length_take->AbU,drop_of_length_le->AdG,getD_eq_getElem?_getD->AbD,getElem?_eq_getElem->AbJ,getElem_mem->Ade,map_toArray->AbL,map_cons->AbO,map_nil->AbS,append_toArray->Ack,nil_append->Acg,toArray->Ab6,mem_of_getElem?->AdV,mem_map->Acq,mem_singleton->Acd,getElem?_eq_some_iff->AbZ,mem_iff_getElem->Ac0,mem_eraseIdx_iff_getElem->Ae0,eraseIdx_sublist->Aej,size_toArray->Ab8,flatMap_cons->Aco,mem_of_mem_drop->Aeq,drop_zero->Ad0,length_append->AbB,append_assoc->AbY,getElem?_take->Adu,getElem?_drop->AdJ,lt_trans->Afj,length_nil->AbR,drop_left'->AeW,take_left'->AcK,take_append_drop->AcV,length_cons->AbN,flatMap_append->Ac3,length_set->AdB,takeWhile_cons->Ad5
open _root_.Go.Proofs.Tryz renaming prog->Abx,func121->AgA,ntmps121->Agk,func76->Af1,ntmps76->Afx
open _root_.Go.Ending renaming returned->AcZ
open _root_.And renaming intro->AcC
open _root_.Go.MapKept renaming IsKey->Aev,run_findKey->Agp,Stamped->AeX,run_getObj_map->Adq,run_setObj_map->Aec
open _root_.Go.Builtin renaming delete_->AfT,zeroCells->Acs,copy_->Agh
open _root_.Go.Addr renaming add_lit->AcW
open _root_.Go.Op renaming bytesLess->Ab7
open _root_.Option.some renaming injEq->Adj
open _root_.Go.Program renaming elem->AdI
open _root_.Exists renaming elim->Aed
open Go.RowKit
theorem Et(n:Nat)(h:n<2147483648):IntKind.i32.wrap (n:Int)=(n:Int):=IntWalk.i32_in _ ⟨by omega,by omega⟩
theorem Wy(t:AbC)(a b:Nat)(ha:a<2147483648)(hb:b<2147483648):Ace .or t (.int .i32 (a:Int)) (.int .i32 (b:Int))=pure (.int .i32 ((a|||b:Nat):Int)):=by
 unfold Ace;simp only[ne_eq,not_true_eq_false,if_false,Op.intBits,IntKind.bits,BitVec.ofInt_natCast];have h1:(Ad3 32 a|||Ad3 32 b).toNat=a|||b:=by
  rw[BitVec.toNat_or,AeD,AeD,AeO (by omega),AeO (by omega)]
 show pure (AdK .i32 (IntKind.i32.wrap (((Ad3 32 a|||Ad3 32 b).toNat:Nat):Int)))=_;rw[h1,Et _ (Nat.or_lt_two_pow (n:=31) ha hb)]
theorem Vr(t:AbC)(a:Nat)(j:AcJ)(n:Nat)(hn:n<32)(h:a*2^n<2147483648):Ace .shl t (.int .i32 (a:Int)) (.int j (n:Int))=pure (.int .i32 ((a*2^n:Nat):Int)):=by
 unfold Ace;simp only[Op.shift,IntKind.bits];rw[if_neg (by omega),Ab2,Ad9 (by omega)];have:(a:Int)*2^n=((a*2^n:Nat):Int):=by simp
 rw[this,Et _ h]
/-! ### A string, rune by rune -/
theorem JV{w:Abw}{g p:Nat}{s:ByteArray}(h:w.heap[g]? =some (.stringIter s p)):w.iterPos g=p:=by simp[World.iterPos,h]
theorem JW(l:AgS):(⟨l.toArray⟩:ByteArray).size=l.length:=by show l.toArray.size=_;simp
theorem Vs(s:ByteArray)(p:Nat)(h:p<s.size):1<=(Utf8.decode s p).2:=by
 by_cases hc:(s[p]'h).toNat<128
 ·rw[decode_ascii s p h hc];exact AbA 1
 ·exact(decode_high s p h (by omega)).2
section
variable {P : AbQ} {K : Abv -> Abw -> Prop} {ρ : Ah} {w : Abw} {d : Option Tmp} {ty : AbC} {pos : String} {af : Array Acn} {gd : Option (Nat × Bool)}
theorem Z4{t:AbC}(ht:P.underlying t=some .string){x:AbG}{l:AgS}(hx:Ab ρ x=St l) 
  (hk:∀n w',w.heap.size=n->w'.heap[n]? =some (.stringIter ⟨l.toArray⟩ 0)->Ext w w' ->w'.heap.size=n+1->K (.pointer (some ⟨n,0,none⟩)) w'):Yk P K ((execOp (Ab ρ) ⟨d, .range t x,ty,pos,af,gd⟩).run P w):=by
 have hr:(execOp (Ab ρ) ⟨d, .range t x,ty,pos,af,gd⟩).run P w = .ok (.value (.pointer (some ⟨w.heap.size,0,none⟩))) (w.iter ⟨l.toArray⟩ 0):=by
  unfold execOp;simp only[hx,AbF,show(Instr.range t (St l)).run P w=_ from run_range_string w t _ ht,AbE,AbH]
 rw[hr];exact hk _ _ rfl (World.iter_heap _ _ _) ((Acr _ _).alloc (AbA _) _) (by simp[World.iter])
theorem Aah{x:AbG}{g:Nat}{l:AgS}{p:Nat}(hx:Ab ρ x = .pointer (some ⟨g,0,none⟩))(hg:w.heap[g]? =some (.stringIter ⟨l.toArray⟩ p))(hp:p<l.length) 
  (hk:∀q r w',p<q->w'.heap[g]? =some (.stringIter ⟨l.toArray⟩ q)->w.grownBy w' (some g)->w'.heap.size=w.heap.size->K (.tuple #[.bool true,NI p, .int .i32 ((r:Nat):Int)]) w'):Yk P K ((execOp (Ab ρ) ⟨d, .next x true,ty,pos,af,gd⟩).run P w):=by
 have hlt:p<(⟨l.toArray⟩:ByteArray).size:=by rw[JW];exact hp
 have hr:(Aep (.pointer (some ⟨g,0,none⟩)) true ty).run P w = .ok (.tuple #[.bool true,NI p, .int .i32 ((Utf8.decode ⟨l.toArray⟩ p).1:Nat)]) { w with heap:=w.heap.setIfInBounds g (.stringIter ⟨l.toArray⟩ (p+(Utf8.decode ⟨l.toArray⟩ p).2)) } :=by
  simp only[Aep,getObj,setObj,AbF,Sem.run,hg,Acm,hlt,if_true];simp[goInt,NI]
 unfold execOp;simp only[hx,hr,AbF,AbE,AbH];have hb:=(Acj.1 hg).1;refine hk _ _ _ (Nat.lt_add_of_pos_right (Vs _ _ hlt)) ?_ ⟨rfl,rfl,rfl,by simp,fun k _ hk=> ?_⟩ (by simp)
 ·simp[hb]
 ·exact Array.getElem?_setIfInBounds_ne (fun e=>hk (by rw[e]))
theorem Z5{x:AbG}{g:Nat}{l:AgS}{p:Nat}(hx:Ab ρ x = .pointer (some ⟨g,0,none⟩))(hg:w.heap[g]? =some (.stringIter ⟨l.toArray⟩ p))(hp:¬p<l.length) 
  (hk:K (.tuple #[.bool false]) w):Yk P K ((execOp (Ab ρ) ⟨d, .next x true,ty,pos,af,gd⟩).run P w):=by
 have hlt:¬p<(⟨l.toArray⟩:ByteArray).size:=by rw[JW];exact hp
 have hr:(Aep (.pointer (some ⟨g,0,none⟩)) true ty).run P w = .ok (.tuple #[.bool false]) w:=by
  simp[Aep,getObj,Sem.run,hg,hlt]
 unfold execOp;simp only[hx,hr,AbF,AbE,AbH];exact hk
end
/-! ### Is it a text? -/
def Da(c:UInt8):Option (Nat × Nat × Nat):=
 if c.toNat<128 then some (0,c.toNat,0)else if 192<=c.toNat/\c.toNat<224 then some (1,c.toNat&&&31,128)
 else if 224<=c.toNat/\c.toNat<240 then some (2,c.toNat&&&15,2048)else if 240<=c.toNat/\c.toNat<248 then some (3,c.toNat&&&7,65536)else none
def Fa(l:AgS)(p:Nat):Nat->Nat->Option Nat
 | 0,r=>some r
 | k+1,r=>if(l.getD p 0).toNat&&&192≠128 then none else Fa l (p+1) k (r*2^6|||((l.getD p 0).toNat&&&63))
def MC(r:Nat):Bool:=(decide (0<=r)&&decide (r<=1114111))&&(decide (r<55296)||decide (57343<r))
def Ef(l:AgS)(a:Nat):Option Nat:=
 match Da (l.getD a 0)with
 | none=>none
 | some (n,r,m)=>if l.length-a<=n then none else
  match Fa l (a+1) n r with
  | none=>none
  | some q=>if m<=q/\MC q=true then some (a+n+1)else none
def Xc(o:Option (Nat × Nat × Nat)):Abv:=match o with
 | none=> .tuple #[.int .i64 (-1), .int .i32 0, .int .i32 0]
 | some (n,r,m)=> .tuple #[NI n, .int .i32 (r:Int), .int .i32 (m:Int)]
theorem QU{l:AgS}{p i n q:Nat}(hi:i<n)(h:(l.getD (p+i) 0).toNat&&&192≠128):Fa l (p+i) (n-i) q=none:=by
 rw[show n-i=(n-i-1)+1 by omega];exact if_pos h
theorem Pe{l:AgS}{p i n q:Nat}(hi:i<n)(h:(l.getD (p+i) 0).toNat&&&192=128):Fa l (p+i) (n-i) q=Fa l (p+(i+1)) (n-(i+1)) (q*2^6|||((l.getD (p+i) 0).toNat&&&63)):=by
 rw[show n-i=(n-(i+1))+1 by omega];exact if_neg (fun e=>e h)
theorem NW{q i c:Nat}(h:q<2^(7+6*i)):q*2^6|||(c&&&63)<2^(7+6*(i+1)):=by
 refine Nat.or_lt_two_pow ?_ (Adv Adt ?_)
 ·rw[show 7+6*(i+1)=(7+6*i)+6 by omega,Nat.pow_add];exact Nat.mul_lt_mul_of_pos_right h (by decide)
 ·exact Nat.lt_of_lt_of_le (show 63<2^7 by decide) (Adf (by decide) (by omega))
theorem IU{q i n:Nat}(h:q<2^(7+6*i))(hi:i<n)(hn:n<=3):q*2^6<2147483648:=by
 have:2^(7+6*i)<=2^19:=Adf (by decide) (by omega);omega
theorem U6(c:Nat):c&&&63<2147483648:=Adv Adt (by decide)
theorem QV{l:AgS}{a:Nat}(h:Da (l.getD a 0)=none):Ef l a=none:=by unfold Ef;rw[h]
theorem Pf{l:AgS}{a n r m:Nat}(h:Da (l.getD a 0)=some (n,r,m))(hs:l.length-a<=n):Ef l a=none:=by unfold Ef;rw[h];exact if_pos hs
theorem S9{l:AgS}{a n r m:Nat}(h:Da (l.getD a 0)=some (n,r,m))(ht:Fa l (a+1) n r=none):Ef l a=none:=by
 unfold Ef;rw[h];simp only[ht];exact ite_self _
theorem Vt{l:AgS}{a n r m q:Nat}(h:Da (l.getD a 0)=some (n,r,m))(hs:¬l.length-a<=n)(ht:Fa l (a+1) n r=some q):Ef l a=if(decide (m<=q)&&MC q)=true then some (a+n+1)else none:=by
 unfold Ef;rw[h];simp only[ht,if_neg hs,Bool.and_eq_true,decide_eq_true_eq]
theorem KN{l:AgS}{a b:Nat}(h:Ef l a=some b):a<b/\b<=l.length:=by
 unfold Ef at h;split at h
 ·cases h
 ·split at h
  ·cases h
  ·split at h
   ·cases h
   ·split at h
    ·cases h;omega
    ·cases h
def Eg(l:AgS)(a:Nat):Bool:=
 if a<l.length then
  match _h:Ef l a with
  | none=>false
  | some b=>Eg l b
 else true
termination_by l.length-a
decreasing_by have:=KN (by assumption);omega
theorem Jm{l:AgS}{a:Nat}(h:¬a<l.length):Eg l a=true:=by rw[Eg,if_neg h]
theorem QW{l:AgS}{a:Nat}(ha:a<l.length)(h:Ef l a=none):Eg l a=false:=by
 rw[Eg,if_pos ha];split
 ·rfl
 ·rename_i h2;rw[h]at h2;cases h2
theorem Lb{l:AgS}{a b:Nat}(ha:a<l.length)(h:Ef l a=some b):Eg l a=Eg l b:=by
 rw[Eg,if_pos ha];split
 ·rename_i h2;rw[h]at h2;cases h2
 ·rename_i h2;rw[h]at h2;cases h2;rfl
def Ci(l:AgS):Bool:=decide (l.length<=256)&&Eg l 0
theorem Pg{c:UInt8}{n r m:Nat}(h:Da c=some (n,r,m)):n<=3/\r<2^7/\(0<n->r<2^5)/\m<=65536:=by
 have hm:c.toNat&&&31<=31/\c.toNat&&&15<=15/\c.toNat&&&7<=7:=⟨Adt,Adt,Adt⟩;unfold Da at h;split at h
 ·cases h;omega
 ·split at h
  ·cases h;omega
  ·split at h
   ·cases h;omega
   ·split at h
    ·cases h;omega
    ·cases h
def AO(k:Nat):AgS->Option (Nat × Nat)
 | []=>none
 | c :: r=>if 128<=c.toNat then(if 8<=k then none else(AO (k+1) r).map (fun x=>(c.toNat-128+128*x.1,x.2+1)))
  else if c.toNat=0/\0<k then none else some (c.toNat,1)
theorem Hc:∀(l:AgS) (k:Nat) (x:Nat × Nat),AO k l=some x->1<=x.2/\x.2<=l.length/\x.2+k<=max 9 (k+1)
 | [],k,x,h=>by simp[AO]at h
 | c :: r,k,x,h=>by
  unfold AO at h;split at h
  ·split at h
   ·cases h
   ·obtain⟨y,hy,rfl⟩:=Adp.1 h;have:=Hc r (k+1) y hy;simp;omega
  ·split at h
   ·cases h
   ·cases h;simp;omega
theorem Lc:∀(l:AgS) (k:Nat) (x:Nat × Nat),AO k l=some x->x.1<128^x.2
 | [],k,x,h=>by simp[AO]at h
 | c :: r,k,x,h=>by
  unfold AO at h;split at h
  ·split at h
   ·cases h
   ·obtain⟨y,hy,rfl⟩:=Adp.1 h;have:=Lc r (k+1) y hy;have hc:=c.toNat_lt;simp only[Nat.pow_succ];omega
  ·split at h
   ·cases h
   ·cases h;simp;omega
theorem D7(rest:AgS):∀(m n k:Nat),n<128^(m+1)->m+k<=8->(0<k->0<n)->AO k (AbX n++rest)=some (n,(AbX n).length)
 | m,n,k,hn,hk,h0=>by
  by_cases h:n<128
  ·rw[Lib.uvarint_small h];have:(n.toUInt8).toNat=n:=by simp[Nat.toUInt8,UInt8.toNat_ofNat'];omega
   simp only[Ab5,AO,this];rw[if_neg (by omega),if_neg (by omega)];simp
  ·have hb:((n%128+128).toUInt8).toNat=n%128+128:=by simp[Nat.toUInt8,UInt8.toNat_ofNat'];omega
   rw[Lib.uvarint_big (by omega)];simp only[Ab5,AO,hb]
   match m,hn,hk with
   | 0,hn,_=>simp at hn;omega
   | m+1,hn,hk=>
    rw[if_pos (by omega),if_neg (by omega),D7 rest m (n/128) (k+1) (by rw[Nat.pow_succ]at hn;exact Nat.div_lt_of_lt_mul (by rw[Afw];exact hn)) (by omega) (fun _=>by omega)];simp;omega
theorem Ph:∀w' :Abw,(sizeOf 5).run Abx w' = .ok 1 w' :=fun _=>by kernel_rfl
def Ej(a:Nat):Option (Nat × Nat)->Abv
 | some x=> .tuple #[.int .i64 x.1, .int .i64 ↑(a+x.2), .int .i64 0]
 | none=> .tuple #[.int .i64 0, .int .i64 0, .int .i64 6]
theorem Hd(y k:Nat)(hy:y<128)(hk:k<=8):IntKind.u64.wrap ((y:Int)*2^(7*k))=((y*2^(7*k):Nat):Int):=by
 have h1:y*2^(7*k)<=127*2^56:=Ae8 (by omega) (Adf (by decide) (by omega));have e:((y:Int)*2^(7*k))=((y*2^(7*k):Nat):Int):=by push_cast;rfl
 rw[e];exact IntWalk.u64_in _ ⟨by omega,by omega⟩
theorem MD(out y k:Nat)(hout:out<2^(7*k))(hy:y<128)(hk:k<=8):bits .or .u64 (out:Int) ((y*2^(7*k):Nat):Int)=((out+2^(7*k)*y:Nat):Int):=by
 have h1:y*2^(7*k)<=127*2^56:=Ae8 (by omega) (Adf (by decide) (by omega));have h2:2^(7*k)<=2^56:=Adf (by decide) (by omega);have h:=(bits_nat .u64 64 (by decide) wraps_u64 out (y*2^(7*k)) (by omega) (by omega)).2;rw[h]
 congr 1
 have h3:=Nat.shiftLeft_add_eq_or_of_lt hout y;rw[Nat.shiftLeft_eq]at h3;rw[Nat.or_comm,<-h3,Afw];omega
set_option maxRecDepth 100000 in
theorem Pi:∀n:Fin 128,bits .andNot .u8 ((n.val+128:Nat):Int) 128=(n.val:Int):=by decide+kernel
theorem ME(c:Nat)(h:128<=c)(h2:c<256):IntKind.u64.wrap (bits .andNot .u8 (c:Int) 128)=((c-128:Nat):Int):=by
 have h1:=Pi ⟨c-128,by omega⟩;have e:c-128+128=c:=by omega
 simp only[e]at h1;rw[h1];exact IntWalk.u64_in _ ⟨by omega,by omega⟩
theorem MF(out y k:Nat)(hout:out<2^(7*k))(hy:y<128)(hk:k<=8):out+2^(7*k)*y<=9223372036854775807:=by
 have h1:2^(7*k)*y<=2^56*127:=Ae8 (Adf (by decide) (by omega)) (by omega);have h2:2^(7*k)<=2^56:=Adf (by decide) (by omega);omega
theorem QX(a k N c:Nat)(h:N+2^(7*k)*c<=9223372036854775807):
  AcZ (.tuple #[.int .i64 (wrap64 ((N+2^(7*k)*c:Nat):Int)), .int .i64 ((a:Int)+(k:Int)+1), .int .i64 0]) = .returned (Ej a ((some (c,1)).map fun x=>(N+2^(7*k)*x.1,x.2+k))):=by
 rw[IntWalk.wrap64_in _ ⟨by omega,by omega⟩];have e:(a:Int)+(k:Int)+1=((a+(1+k):Nat):Int):=by omega
 rw[e];rfl
set_option maxRecDepth 100000 in
set_option maxHeartbeats 1000000 in
theorem GX(w:Abw)(v:Abv)(l:AgS)(hr:RB w v l)(a:Nat)(ha:a<=l.length):
  Calls Abx 121 #[v, .int .i64 a] w fun e w' =>e = .returned (Ej a (AO 0 (l.drop a)))/\w=w' :=by
 have HR:=Ac8 hr;obtain⟨ao,cap,rfl,h2,h3⟩:=hr.len;clear hr;have hd:decide ((a:Int)<0)=false:=by simp
 have hd2:decide (l.length<a)=false:=by simp;omega
 obtain⟨L,hL⟩:∃L,L=l.drop a:=⟨_,rfl⟩;have hLn:l.length-a=L.length:=by rw[hL,AbV]
 rw[<-hL];have HLn:=Ac8 hLn;have HL:=Ac8 hL;clear hLn hL
 go_enter AgA,Agk
 go_wp2_with fail
 go_step3
 go_wp2_with fail
 go_step3
 go_wp2_with (refine GI (o:=⟨some 21,_,_,_,_,_⟩) rfl _ _ (some _) none rfl GL Ph _ l rfl HR.out a l.length ha (AbA _) (.inr ⟨.i64,rfl⟩) (.inl ⟨rfl,rfl⟩) ?_)
 intro ao' c' hr';rw[Acb (by rw[AbV];exact AbA _)]at hr';have HR' :=Ac8 hr';clear hr' hd hd2;rw[<-HL.out,HLn.out]at HR';rw[HLn.out];by_cases g:L.length=0
 ·have hL0:L= []:=Acp g;have HL0:=Ac8 hL0;clear hL0 HR' HR;have h00:decide (0<L.length)=false:=by simp[g]
  clear g
  go_wp2_with fail
  refine wp_loop_rounds 1 ?_;rw[rounds_succ]
  go_wp2
  rw[Exit.noGoto_ret]
  all_goals (go_ret3;exact⟨by rw[HL0.out];simp[AO,Ej],rfl⟩)
 obtain⟨b,off,cc,hv,hcap,hcap2,hbw,hcell⟩:=HR'.out.open_ (by omega);simp only[Value.slice.injEq,true_and]at hv;obtain⟨rfl,rfl⟩:=hv;have haL:a+L.length<=9223372036854775807:=by have:=HLn.out;omega
 clear HR' HR
 go_wp2_with fail
 go_loop [7,8,23] (fun vx vs vi=>∃k out:Nat,vi = .int .i64 k/\vs = .int .i64 ((7*k:Nat):Int)/\vx = .int .u64 out/\k<=L.length/\k<=8/\out<2^(7*k)/\AO 0 L=(AO k (L.drop k)).map (fun x=>(out+2^(7*k)*x.1,x.2+k)))
  (fun _ _ vi=>L.length-(intOf vi).toNat)
 case atStart=>exact⟨0,0,rfl,rfl,rfl,by omega,by omega,by decide,by simp⟩
 case round=>
  obtain⟨k,out,rfl,rfl,rfl,hk,f,hout,hdec⟩:=hrel;have HD:=Ac8 hdec;clear hdec;by_cases hkl:k<L.length
  ·have hc:=hcell k hkl;have hdrop:L.drop k=L[k] :: L.drop (k+1):=Adw hkl;have hg:L.getD k 0=L[k]:=by simp[hkl]
   rw[hg]at hc
   generalize L[k]=c at hc hdrop
   have HDr:=Ac8 hdrop;have i:=c.toNat_lt;clear hcell hdrop hg;have HO:=Ac8 hout;clear hout;by_cases h128:128<=c.toNat
   ·by_cases hk8' :k=8
    ·subst hk8'
     go_wp2
     all_goals (go_ret3;exact⟨by rw[HD.out,HDr.out];simp[AO,h128,Ej],rfl⟩)
    ·have m:k<8:=by omega
     clear hk8'
     go_wp2
     go_round
     case rel=>
      have hp:2^(7*(k+1))=2^(7*k)*128:=by rw[show 7*(k+1)=7*k+7 from by omega,Nat.pow_add]
      refine⟨k+1,out+2^(7*k)*(c.toNat-128),by go_num,by go_num,?_,by omega,by omega,?_,?_⟩
      ·rw[ME _ h128 i,Hd _ _ (by omega) (by omega),MD _ _ _ HO.out (by omega) (by omega)]
      ·have h1:=HO.out;have h2:2^(7*k)*(c.toNat-128)<=2^(7*k)*127:=Nat.mul_le_mul_left _ (by omega);rw[hp];omega
      ·rw[HD.out,HDr.out];have:AO k (c :: L.drop (k+1))=(AO (k+1) (L.drop (k+1))).map (fun x=>(c.toNat-128+128*x.1,x.2+1)):=by
        simp only[AO];rw[if_pos h128,if_neg (by omega)]
       rw[this,Option.map_map]
       congr 1
       funext x
       simp only[Function.comp,Prod.mk.injEq];refine⟨?_,by omega⟩;rw[hp,Nat.mul_add,Nat.mul_assoc];omega
     case measure=>simp[intOf];omega
   ·have hlt:c.toNat<128:=by omega
    by_cases h0:c.toNat=0
    ·have hz:((c.toNat:Int)==0)=true:=by simp[h0]
     have HZ:=Ac8 h0;clear h0;by_cases h:0<k
     ·go_wp2
      all_goals (go_ret3;exact⟨by rw[HD.out,HDr.out];simp[AO,HZ.out,h,Ej],rfl⟩)
     ·have j:decide (0<k)=false:=by simp;omega
      clear h;have hd:AO k (c :: L.drop (k+1))=some (c.toNat,1):=by
       simp only[AO];rw[if_neg h128,if_neg (by simp at j;omega)]
      have HD2:=Ac8 hd;clear hd
      go_wp2
      all_goals go_ret3
      all_goals refine⟨?_,rfl⟩
      all_goals rw[Hd _ _ hlt f,MD _ _ _ HO.out hlt f,HD.out,HDr.out,HD2.out]
      all_goals exact QX a k _ _ (MF _ _ _ HO.out hlt f)
    ·have hz:((c.toNat:Int)==0)=false:=by simp[h0]
     have HZ:=Ac8 h0;clear h0;have hd:AO k (c :: L.drop (k+1))=some (c.toNat,1):=by
      simp only[AO];rw[if_neg h128,if_neg (by have:=HZ.out;omega)]
     have HD2:=Ac8 hd;clear hd
     go_wp2
     all_goals go_ret3
     all_goals refine⟨?_,rfl⟩
     all_goals rw[Hd _ _ hlt f,MD _ _ _ HO.out hlt f,HD.out,HDr.out,HD2.out]
     all_goals exact QX a k _ _ (MF _ _ _ HO.out hlt f)
  ·have hkl' :k=L.length:=by omega
   go_wp2
   all_goals (go_ret3;exact⟨by rw[HD.out,hkl'];simp[AO,Ej],rfl⟩)
theorem u5:Tryz.prog.underlying 5=some (.int .u8):=by kernel_rfl

theorem XI(w:Abw)(ao:Option Addr)(n c:Nat)(a:Int)(ha:a<0\/(n:Int)<a):
  Calls Abx 121 #[.slice ao n c, .int .i64 a] w fun e w' =>e = .returned (.tuple #[.int .i64 0, .int .i64 0, .int .i64 1])/\w=w' :=by
 by_cases h0:a<0
 ·have hd:decide (a<0)=true:=by simp[h0]
  clear ha
  go_enter AgA,Agk
  go_wp2_with fail
  go_step3
  go_wp2_with fail
  rw[Exit.noGoto_ret]
  go_ret3
  exact⟨rfl,rfl⟩
 ·have hd:decide (a<0)=false:=by simp[h0]
  have h1:(n:Int)<a:=by omega
  have hd2:decide ((n:Int)<a)=true:=by simp[h1]
  clear ha
  go_enter AgA,Agk
  go_wp2_with fail
  go_step3
  go_wp2_with fail
  rw[Exit.noGoto_ret]
  go_ret3
  exact⟨rfl,rfl⟩
def Bi(l:AgS)(a:Nat)(most:Int):Abv:=
 match AO 0 (l.drop a)with
 | none=> .tuple #[.string ⟨#[]⟩, .int .i64 0, .int .i64 6]
 | some x=>if most<x.1 then .tuple #[.string ⟨#[]⟩, .int .i64 0, .int .i64 2]
  else if l.length<a+x.2+x.1 then .tuple #[.string ⟨#[]⟩, .int .i64 0, .int .i64 6]
  else .tuple #[.string ⟨((l.drop (a+x.2)).take x.1).toArray⟩, .int .i64 ↑(a+x.2+x.1), .int .i64 0]
set_option maxRecDepth 100000 in
set_option maxHeartbeats 1000000 in
theorem Cz(w:Abw)(v:Abv)(l:AgS)(hr:RB w v l)(a:Nat)(ha:a<=l.length)(most:Int):
  Calls Abx 76 #[v, .int .i64 a, .int .i64 most] w fun e w' =>e = .returned (Bi l a most)/\w=w' :=by
 have HR:=Ac8 hr;obtain⟨ao,cap,rfl,h2,h3⟩:=hr.len;clear hr;have HG:=Ac8 (GX w _ l HR.out a ha);cases hL:AO 0 (l.drop a)with
 | none=>
  have hR:Bi l a most = .tuple #[.string ⟨#[]⟩, .int .i64 0, .int .i64 6]:=by unfold Bi;rw[hL]
  rw[hR];have HL:=Ac8 hL;clear hL hR
  go_enter Af1,Afx
  go_wp2_with fail
  refine HG.out.mono ?_;rintro e w1 ⟨rfl,rfl⟩;rw[HL.out];unfold Ej
  go_wp2_with fail
  go_ret3
  exact⟨rfl,rfl⟩
 | some x=>
  obtain⟨n,m⟩:=x;have hp:=Hc _ _ _ hL;have hlt:=Lc _ _ _ hL;rw[AbV]at hp;have hm9:m<=9:=by have:=hp.2.2;simp at this;exact this
  have b:n<=9223372036854775807:=by
   have h1:128^m<=128^9:=Adf (by decide) hm9;simp only at hlt;omega
  have hm1:1<=m:=hp.1;have hml:a+m<=l.length:=by have:=hp.2.1;simp at this;omega
  have HL:=Ac8 hL;clear hL hlt hp;by_cases hmost:most<n
  ·have hR:Bi l a most = .tuple #[.string ⟨#[]⟩, .int .i64 0, .int .i64 2]:=by unfold Bi;rw[HL.out];simp only[];rw[if_pos hmost]
   rw[hR];clear hR
   go_enter Af1,Afx
   go_wp2_with fail
   refine HG.out.mono ?_;rintro e w1 ⟨rfl,rfl⟩;rw[HL.out];unfold Ej
   go_wp2_with fail
   go_ret3
   exact⟨rfl,rfl⟩
  ·by_cases hlen:l.length<a+m+n
   ·have hR:Bi l a most = .tuple #[.string ⟨#[]⟩, .int .i64 0, .int .i64 6]:=by unfold Bi;rw[HL.out];simp only[];rw[if_neg hmost,if_pos hlen]
    rw[hR];clear hR
    go_enter Af1,Afx
    go_wp2_with fail
    refine HG.out.mono ?_;rintro e w1 ⟨rfl,rfl⟩;rw[HL.out];unfold Ej
    go_wp2_with fail
    go_ret3
    exact⟨rfl,rfl⟩
   ·have hR:Bi l a most = .tuple #[.string ⟨((l.drop (a+m)).take n).toArray⟩, .int .i64 ↑(a+m+n), .int .i64 0]:=by unfold Bi;rw[HL.out];simp only[];rw[if_neg hmost,if_neg hlen]
    rw[hR];clear hR
    go_enter Af1,Afx
    go_wp2_with fail
    refine HG.out.mono ?_;rintro e w1 ⟨rfl,rfl⟩;rw[HL.out];unfold Ej;have hlh:a+m<=a+m+n:=Nat.le_add_right _ _;have hhl:a+m+n<=l.length:=by omega
    go_wp2_with (refine GI (o:=⟨some 38,_,_,_,_,_⟩) rfl _ _ (some _) (some _) rfl GL Ph _ l rfl HR.out (a+m) (a+m+n) hlh hhl (.inr ⟨.i64,rfl⟩) (.inr ⟨.i64,rfl⟩) ?_)
    intro ao' c' hr';have HR' :=Ac8 hr';clear hr'
    go_wp2_with (refine NS (o:=⟨some 39,_,_,_,_,_⟩) rfl _ _ _ rfl GL u5 Wp _ _ rfl HR'.out ?_)
    go_ret3
    exact⟨rfl,rfl⟩
theorem U7:Tryz.prog.underlying 33=some (.array 32 5):=by kernel_rfl
theorem QY:(Tryz.prog.info? 33).map (·.size)=some 32:=by kernel_rfl
theorem Wz:(Tryz.prog.info? 5).map (·.size)=some 1:=by kernel_rfl

def zero32:AgS:=AcB 32 0
theorem EM{l:AgS}(h:l.length=32):(Aby l).toArray.size=32:=by simp[Aby,h]
theorem Ar{l:AgS}(h:l.length=32):(Tryz.prog.info? 33).map (·.size)=some (Aby l).toArray.size:=by rw[EM h];exact QY
theorem Pj:zero32.length=32:=Ach

theorem OE(ρ:AbG->Abv)(d:Option Tmp)(ty:AbC)(pos:String)(af:Array Acn)(w:Abw):(execOp ρ ⟨d, .alloc 33,ty,pos,af,none⟩).run Abx w = .ok (.value (.pointer (some ⟨w.heap.size,0,none⟩))) (w.alloc (.cells (Aby zero32).toArray 33)):=by kernel_rfl

def Dr(l:AgS)(a:Nat):Abv:=
 if l.length-a<32 then .tuple #[.agg (Aby zero32).toArray, .int .i64 0, .int .i64 6]
 else .tuple #[.agg (Aby ((l.drop a).take 32)).toArray, .int .i64 ↑(a+32), .int .i64 0]
set_option maxRecDepth 100000 in
set_option maxHeartbeats 1000000 in
theorem He(w:Abw)(v:Abv)(l:AgS)(hr:RB w v l)(a:Nat)(ha:a<=l.length):
  Calls Abx 183 #[v, .int .i64 a] w fun e w' =>e = .returned (Dr l a)/\Ext w w' :=by
 have HR:=Ac8 hr;obtain⟨ao,cap,rfl,h2,h3⟩:=hr.len;clear hr;have hd:decide ((a:Int)<0)=false:=by simp
 have hd2:decide (l.length<a)=false:=by simp;omega
 by_cases hs:l.length-a<32
 ·have hR:Dr l a = .tuple #[.agg (Aby zero32).toArray, .int .i64 0, .int .i64 6]:=by unfold Dr;rw[if_pos hs]
  rw[hR];clear hR
  go_enter Tryz.func183,Tryz.ntmps183
  have HSI:=Ac8 (Ar Pj)
  go_wp2_with (first | (refine HT (o:=⟨some 4, .alloc _,_,_,_,_⟩) rfl _ _ (OE _ _ _ _ _ _) ?_) | (refine wpList_load_row (o:=⟨some 21,_,_,_,_,_⟩) rfl _ _ rfl w.heap.size rfl _ _ _ _ (heap_alloc_new w _) U7 rfl HSI.out ?_) | (refine Fz (o:=⟨none, .store _ _ _,_,_,_,_⟩) rfl _ _ _ rfl w.heap.size rfl (Aby zero32).toArray 33 rfl (heap_alloc_new w _) HSI.out (Aw zero32) ?_))
  refine bodyPost_ret (v:= .tuple #[.agg (Aby zero32).toArray, .int .i64 0, .int .i64 6]) (HH Tryz.results183 _ _ w.heap.size 33 (Aby zero32).toArray (0,0) _ rfl (heap_alloc_new w _) U7 rfl HSI.out) rfl ⟨rfl,(Acr _ _).alloc (AbA _) _⟩
 ·have hR:Dr l a = .tuple #[.agg (Aby ((l.drop a).take 32)).toArray, .int .i64 ↑(a+32), .int .i64 0]:=by unfold Dr;rw[if_neg hs]
  rw[hR];clear hR
  go_enter Tryz.func183,Tryz.ntmps183
  go_wp2_with (refine HT (o:=⟨some 4, .alloc _,_,_,_,_⟩) rfl _ _ (OE _ _ _ _ _ _) ?_)
  have hal:a+32<=l.length:=by omega
  obtain⟨w0,hw0⟩:∃w0,w0=w.alloc (.cells (Aby zero32).toArray 33):=⟨_,rfl⟩;have hbox:w0.heap[w.heap.size]? =some (.cells (Aby zero32).toArray 33 (0,0)):=by rw[hw0];exact heap_alloc_new w _
  have hsz:w0.heap.size=w.heap.size+1:=by rw[hw0];simp
  have b:Below w.heap.size w w0:=by rw[hw0];exact(Acr _ _).alloc (AbA _) _
  rw[<-hw0];clear hw0;have c:((l.drop a).take 32).length=32:=by rw[AbU,AbV];omega
  have HL32:=Ac8 c;clear c hd hd2;refine KH [4] (fun n=>if n=4 then [3]else []) (fun w' =>Below w.heap.size w0 w' /\∃cur:Array Abv,cur.size=32/\w'.heap[w.heap.size]? =some (.cells cur 33 (0,0)))
   (fun w1 w2=>w1.grownBy w2 (some w.heap.size)/\((∃cur:Array Abv,cur.size=32/\w1.heap[w.heap.size]? =some (.cells cur 33 (0,0)))->∃cur:Array Abv,cur.size=32/\w2.heap[w.heap.size]? =some (.cells cur 33 (0,0))))
   [Is (.slice (some ⟨w.heap.size,0,none⟩) 32 32),Is (.slice ao l.length cap),Is (.int .i64 a),(fun x w' =>RB w' x (l.drop a)),(fun _ w' =>w'.heap[w.heap.size]? =some (.cells (Aby ((l.drop a).take 32)).toArray 33 (0,0)))]
   (by kernel_rfl) _ _ (by kernel_rfl) (by kernel_rfl) [22,23,24,25,26] (by kernel_rfl)
   (fun w1 w2 h k=>⟨h.1.trans (k.mono (by have:=h.1.size;have:=hsz;omega)),by obtain⟨cur,h1,h2⟩:=h.2;exact⟨cur,h1,(k.block _ (Acj.1 h2).1).trans h2⟩⟩)
   (fun w1 w2 h k=>⟨h.1.grown k.1 (by have:=h.1.size;have:=hsz;omega) (fun _ e=>by cases e;exact AbA _),k.2 h.2⟩) (fun w=>⟨World.grownBy.refl _ _,fun h=>h⟩) ⟨(Acr _ _).drew,_,EM rfl,hbox⟩ ?hst ?hsk ?hs ?hQ
  case hst=>
   refine⟨X8 _,X8 _,X8 _,Stab.rb _,fun v w1 w2 h k=> ?_,trivial⟩;have h' :w1.heap[w.heap.size]? =_:=h;exact(k.block _ (Acj.1 h').1).trans h'
  case hsk=>
   intro n i hn hi hk hne hb;simp at hn;subst hn
   match i,hi,hk,hne,hb with
   | 0,_,_,_,_=>exact X8 _
   | 1,_,_,_,_=>exact X8 _
   | 2,_,_,_,_=>exact X8 _
   | 3,_,hk,_,_=>simp at hk
   | 4,_,_,hne,_=>simp at hne
  case hs=>
   refine⟨?_,?_,?_,?_,?_,trivial⟩
   ·refine FQ rfl fun ρ w1 hC h=> ?_;have h4:ρ 4 = .pointer (some ⟨w.heap.size,0,none⟩):=h 4 (by decide);refine AaO (v:= .slice (some ⟨w.heap.size,0,none⟩) 32 32) (w' :=w1) ?_ ⟨AaI _,rfl⟩;clear h hC;simp[execOp,Ab,h4,go_sem]
   ·refine FQ rfl fun ρ w1 hC h=> ?_;have h0:ρ 0 = .slice ao l.length cap:=h 0 (by decide);exact⟨AaI _,h0⟩
   ·refine FQ rfl fun ρ w1 hC h=> ?_;have h0:ρ 1 = .int .i64 a:=h 1 (by decide);exact⟨AaI _,h0⟩
   ·refine FQ rfl fun ρ w1 hC h=> ?_;have h23:ρ 23 = .slice ao l.length cap:=h 23 (by decide);have h24:ρ 24 = .int .i64 a:=h 24 (by decide);have f:RB w1 (Ab ρ (.tmp 23)) l:=by show RB w1 (ρ 23) l;rw[h23];exact HR.out.keep (b.trans hC.1)
    refine Z1 GL Ph f a l.length ha (AbA _) (.inr ⟨.i64,by simp[Ab,h24]⟩) (.inl ⟨rfl,rfl⟩) ?_;intro ao' c' hr';rw[Acb (by rw[AbV];exact AbA _)]at hr';exact⟨AaI _,hr'⟩
   ·refine FQ rfl fun ρ w1 hC h=> ?_;have h22:ρ 22 = .slice (some ⟨w.heap.size,0,none⟩) 32 32:=h 22 (by decide);have h25:RB w1 (ρ 25) (l.drop a):=h 25 (by decide);obtain⟨hC1,cur,hcs,hcb⟩:=hC;have hm:Ad7 (l.drop a).length 32=32:=Nat.min_eq_right (by rw[AbV];exact Nat.le_sub_of_add_le (by rw[Nat.add_comm];exact hal));have hfit:0+Ad7 (l.drop a).length 32<=cur.size:=by rw[hm,hcs];exact AbA _
    refine Aaq (.tmp 22) (.tmp 25) (o:=0) GL Wz h22 h25 hcb hfit ?_;have e:(cur.toList.take 0++Aby ((l.drop a).take 32)++cur.toList.drop (0+Ad7 (l.drop a).length 32)).toArray=(Aby ((l.drop a).take 32)).toArray:=by
     have hd0:cur.toList.drop (0+32)= []:=AdG (Afy (by rw[Ac2,hcs]));rw[hm,hd0];simp
    rw[e];have hw:=setRow_heap w1 w.heap.size cur (Aby ((l.drop a).take 32)).toArray 33 (0,0) hcb;exact⟨⟨⟨rfl,rfl,rfl,by simp,fun k _ hk=>setRow_other w1 w.heap.size k _ (fun e=>hk (by rw[e]))⟩,fun _=>⟨_,EM HL32.out,hw⟩⟩,hw⟩
  case hQ=>
   intro u w1 hC hE;obtain⟨-,-,-,-,h26,-⟩:=hE;have hblk:w1.heap[w.heap.size]? =some (.cells (Aby ((l.drop a).take 32)).toArray 33 (0,0)):=h26;clear h26;simp only[Dp,List.foldl_cons,List.foldl_nil,List.setIfInBounds_toArray,List.set_cons_zero,List.set_cons_succ];have hsi:(Tryz.prog.info? 33).map (·.size)=some (Aby ((l.drop a).take 32)).toArray.size:=by rw[EM HL32.out];exact QY
   have HB:=Ac8 hblk;clear hblk;have HSI:=Ac8 hsi;clear hsi
   go_wp2_with (first | (refine wpList_load_row (o:=⟨some 27,_,_,_,_,_⟩) rfl _ _ rfl w.heap.size rfl _ _ _ _ HB.out U7 rfl HSI.out ?_) | (refine Fz (o:=⟨none, .store _ _ _,_,_,_,_⟩) rfl _ _ _ rfl w.heap.size rfl (Aby ((l.drop a).take 32)).toArray 33 rfl HB.out HSI.out (Aw _) ?_))
   refine bodyPost_ret (v:= .tuple #[.agg (Aby ((l.drop a).take 32)).toArray, .int .i64 ↑(a+32), .int .i64 0]) ?_ rfl ⟨rfl,b.trans hC.1⟩;exact HH Tryz.results183 _ _ w.heap.size 33 _ (0,0) _ rfl HB.out U7 rfl HSI.out
def IH(c:UInt8):Bool:=((((((decide (97<=c.toNat))&&(decide (c.toNat<=122)))||((decide (65<=c.toNat))&&(decide (c.toNat<=90))))||((decide (48<=c.toNat))&&(decide (c.toNat<=57))))||(decide (c.toNat=45)))||(decide (c.toNat=95)))||(decide (c.toNat=46))
def Hf(s:Bs):Bool:=(((decide (s.length<1)||decide (32<s.length))||decide ((s.getD 0 0).toNat=46))||decide ((s.getD 0 0).toNat=45))||decide (s= [72,69,65,68])
def Au(s:Bs):Bool:= !Hf s&&s.all IH
theorem Pk{s:Bs}(h:Hf s=true):Au s=false:=by unfold Au;rw[h];rfl
theorem Ld{s:Bs}(h:Hf s=false):1<=s.length/\s.length<=32:=by
 unfold Hf at h;simp only[Bool.or_eq_false_iff,decide_eq_false_iff_not]at h;omega
theorem DU{s:Bs}(h:Au s=true):1<=s.length/\s.length<=32:=by
 unfold Au at h;refine Ld ?_;cases hh:Hf s with
 | false=>rfl
 | true=>rw[hh]at h;cases h
theorem QZ{s:Bs}{i:Nat}(hi:i<s.length)(h:IH (s.getD i 0)=false):Au s=false:=by
 unfold Au;rw[Bool.and_eq_false_iff];refine .inr ?_;rw[List.all_eq_false];refine⟨s.getD i 0,?_,by rw[h];decide⟩;rw[AbD,AbJ hi];exact Ade hi
theorem Ta{α:Type}{l:List α}{f:α->Bool}{i:Nat}(d:α)(hi:i<l.length)(h:(l.take i).all f=true)(h1:f (l.getD i d)=true):(l.take (i+1)).all f=true:=by
 rw[List.take_succ_eq_append_getElem hi,List.all_append,h];rw[AbD,AbJ hi]at h1;simp only[Option.getD_some]at h1;simp[h1]
theorem Q1{s:Bs}{i:Nat}(h:Hf s=false)(hi:s.length<=i)(ha:(s.take i).all IH=true):Au s=true:=by
 unfold Au;rw[h,Acb hi]at *;rw[ha];rfl
set_option maxRecDepth 100000
theorem Fe:Tryz.prog.underlying 21=some (.int .i32):=by kernel_rfl
theorem Eu:Tryz.prog.underlying 9=some (.string):=by kernel_rfl
theorem JX:Plain Abx 191:=fun _ _=>by kernel_rfl
theorem Pm:Plain Abx 192:=fun _ _=>by kernel_rfl
theorem Pn:Plain Abx 153:=fun _ _=>by kernel_rfl
theorem JY:Plain Abx 130:=fun _ _=>by kernel_rfl
theorem Q2:Plain Abx 88:=fun _ _=>by kernel_rfl
theorem Q3:Plain Abx 87:=fun _ _=>by kernel_rfl
set_option maxHeartbeats 1600000
theorem Po(w:Abw)(r:Nat):
  Calls Abx 192 #[.int .i32 (r:Int)] w fun e w' =>e = .returned (.bool (MC r))/\Ext w w' :=by
 refine FV (args:= [.int .i32 ((r:Nat):Int)]) Tryz.func192 rfl 17 rfl rfl ?_;have hE:=AaI w;refine gS (X0 (a:=(r:Nat)) (b:=(0:Nat)) rfl rfl (E7 _ _ _ _) (gO fun _=>Af (.int .i32 ((r:Nat):Int)) rfl rfl (gT rfl) (fun hG3=>AaP rfl ⟨rfl,rfl⟩) (Av (gO fun _=>Af (.bool (decide ((r)<=(1114111)))) rfl rfl (gT rfl) (fun hG4=>X0 (a:=((r:Nat):Int)) (b:=((1114111:Nat):Int)) (Ai rfl hG4) rfl (EH _ .i32 (r) (1114111)) ⟨rfl,rfl⟩) (Av (gS (Yg rfl (fun hA=>(Ai rfl hA)) rfl fun bb5 hbb6=>(gO fun _=>Af (.int .i32 ((r:Nat):Int)) rfl rfl (gT rfl) (fun hG7=>AaP rfl ⟨rfl,rfl⟩) (Av (gO fun _=>Af (.bool (decide ((r)<(55296)))) rfl rfl (gT rfl) (fun hG8=>X0 (a:=((r:Nat):Int)) (b:=((55296:Nat):Int)) (Ai rfl hG8) rfl (Bh _ .i32 (r) (55296)) ⟨rfl,rfl⟩) (Av (gO fun _=>Af (.bool (decide ((r)<(55296)))) rfl rfl (gT rfl) (fun hG9=>AaP (Ai rfl hG9) ⟨rfl,rfl⟩) (Av (gO fun _=>Af (.int .i32 ((r:Nat):Int)) rfl rfl (EU rfl) (fun hG10=>AaP rfl ⟨rfl,rfl⟩) (Av (gO fun _=>Af (.bool (decide ((57343)<(r)))) rfl rfl (EU rfl) (fun hG11=>X0 (a:=((r:Nat):Int)) (b:=((57343:Nat):Int)) (Ai rfl hG11) rfl (DL _ .i32 (r) (57343)) ⟨rfl,rfl⟩) (Av (gO fun _=>DQ ((decide ((r)<(55296)))||(decide ((57343)<(r)))) rfl rfl (gT rfl) (fun hG12=>YH (Ai rfl hG12) rfl (fun hA=>(Ai rfl (FH hG12 (BP hA)))) ⟨rfl,rfl⟩) fun bb13 hbb14=>Av (gS (Yg rfl (fun hA=>(Ai rfl hA)) rfl fun bb15 hbb16=>(AC rfl (vr (.bool (bb15)) rfl) ?_)))))))))))))))))))));subst hbb6 hbb14 hbb16;exact⟨rfl,hE⟩
theorem MG(w:Abw)(c:UInt8):
  Calls Abx 191 #[B8 c] w fun e w' =>e = .returned (Xc (Da c))/\Ext w w' :=by
 refine FV (args:= [B8 (c)]) Tryz.func191 rfl 40 rfl rfl ?_;have hE:=AaI w;refine gS (X0 (a:=((c).toNat:Nat)) (b:=(128:Nat)) rfl rfl (Bh _ _ _ _) ?_);refine cD rfl (fun f=> ?_) fun f=> ?_
 ·refine gS (YO u5 Fe rfl (Wo .i32 (c) (fun n hn=>Et n (by omega))) (JU rfl (vr (NI 0) rfl) (vr (.int .i32 (((c).toNat:Nat):Int)) rfl) (vr (.int .i32 ((0:Nat):Int)) rfl) ?_));refine⟨congrArg AcZ ?_,hE⟩;unfold Da;rw[if_pos f];rfl
 refine gS (X0 (a:=((c).toNat:Nat)) (b:=(192:Nat)) rfl rfl (E7 _ _ _ _) (gO fun _=>Af (B8 (c)) rfl rfl (gT rfl) (fun hG6=>AaP rfl ⟨rfl,rfl⟩) (Av (gO fun _=>Af (.bool (decide (((c).toNat)<(224)))) rfl rfl (gT rfl) (fun hG7=>X0 (a:=(((c).toNat:Nat):Int)) (b:=((224:Nat):Int)) (Ai rfl hG7) rfl (Bh _ .u8 ((c).toNat) (224)) ⟨rfl,rfl⟩) (Av (gS (Yg rfl (fun hA=>(Ai rfl hA)) rfl fun bb8 hbb9=> ?_)))))));refine cB (bb8) rfl (fun g=> ?_) fun g=> ?_
 ·subst hbb9;refine gS (X9 (xv:= .int .u8 (((c).toNat:Nat):Int)) (yv:= .int .u8 ((31:Nat):Int)) rfl rfl rfl (H5 _ _ _ (c.toNat_lt) (by decide)) (gS (YO u5 Fe rfl (Et (((c).toNat)&&&(31)) (Adv Adt (by decide))) (JU rfl (vr (NI 1) rfl) (vr (.int .i32 ((((c).toNat)&&&(31):Nat):Int)) rfl) (vr (.int .i32 ((128:Nat):Int)) rfl) ?_))));refine⟨congrArg AcZ ?_,hE⟩;unfold Da;rw[if_neg f];rw[if_pos (by simpa using g)];rfl
 subst hbb9;refine gS (X0 (a:=((c).toNat:Nat)) (b:=(224:Nat)) rfl rfl (E7 _ _ _ _) (gO fun _=>Af (B8 (c)) rfl rfl (gT rfl) (fun hG12=>AaP rfl ⟨rfl,rfl⟩) (Av (gO fun _=>Af (.bool (decide (((c).toNat)<(240)))) rfl rfl (gT rfl) (fun hG13=>X0 (a:=(((c).toNat:Nat):Int)) (b:=((240:Nat):Int)) (Ai rfl hG13) rfl (Bh _ .u8 ((c).toNat) (240)) ⟨rfl,rfl⟩) (Av (gS (Yg rfl (fun hA=>(Ai rfl hA)) rfl fun bb14 hbb15=> ?_)))))));refine cB (bb14) rfl (fun h=> ?_) fun h=> ?_
 ·subst hbb15;refine gS (X9 (xv:= .int .u8 (((c).toNat:Nat):Int)) (yv:= .int .u8 ((15:Nat):Int)) rfl rfl rfl (H5 _ _ _ (c.toNat_lt) (by decide)) (gS (YO u5 Fe rfl (Et (((c).toNat)&&&(15)) (Adv Adt (by decide))) (JU rfl (vr (NI 2) rfl) (vr (.int .i32 ((((c).toNat)&&&(15):Nat):Int)) rfl) (vr (.int .i32 ((2048:Nat):Int)) rfl) ?_))));refine⟨congrArg AcZ ?_,hE⟩;unfold Da;rw[if_neg f];rw[if_neg (by simpa using g)];rw[if_pos (by simpa using h)];rfl
 subst hbb15;refine gS (X0 (a:=((c).toNat:Nat)) (b:=(240:Nat)) rfl rfl (E7 _ _ _ _) (gO fun _=>Af (B8 (c)) rfl rfl (gT rfl) (fun hG18=>AaP rfl ⟨rfl,rfl⟩) (Av (gO fun _=>Af (.bool (decide (((c).toNat)<(248)))) rfl rfl (gT rfl) (fun hG19=>X0 (a:=(((c).toNat:Nat):Int)) (b:=((248:Nat):Int)) (Ai rfl hG19) rfl (Bh _ .u8 ((c).toNat) (248)) ⟨rfl,rfl⟩) (Av (gS (Yg rfl (fun hA=>(Ai rfl hA)) rfl fun bb20 hbb21=> ?_)))))));refine cB (bb20) rfl (fun i=> ?_) fun i=> ?_
 ·subst hbb21;refine gS (X9 (xv:= .int .u8 (((c).toNat:Nat):Int)) (yv:= .int .u8 ((7:Nat):Int)) rfl rfl rfl (H5 _ _ _ (c.toNat_lt) (by decide)) (gS (YO u5 Fe rfl (Et (((c).toNat)&&&(7)) (Adv Adt (by decide))) (JU rfl (vr (NI 3) rfl) (vr (.int .i32 ((((c).toNat)&&&(7):Nat):Int)) rfl) (vr (.int .i32 ((65536:Nat):Int)) rfl) ?_))));refine⟨congrArg AcZ ?_,hE⟩;unfold Da;rw[if_neg f];rw[if_neg (by simpa using g)];rw[if_neg (by simpa using h)];rw[if_pos (by simpa using i)];rfl
 subst hbb21;refine JU rfl (vr (.int .i64 (-1:Int)) rfl) (vr (.int .i32 ((0:Nat):Int)) rfl) (vr (.int .i32 ((0:Nat):Int)) rfl) ?_;refine⟨congrArg AcZ ?_,hE⟩;unfold Da;rw[if_neg f];rw[if_neg (by simpa using g)];rw[if_neg (by simpa using h)];rw[if_neg (by simpa using i)];rfl
theorem NX(w:Abw)(l:Bs)(a:Nat)(ha:a<l.length)(hl:l.length<=4611686018427387904):
  Calls Abx 153 #[St l,NI a] w fun e w' =>(∃r b k,e = .returned (.tuple #[.int .i32 ((r:Nat):Int),NI b, .bool k])/\Ef l a=if k=true then some b else none)/\Ext w w' :=by
 refine FV (args:= [St (l),NI a]) Tryz.func153 rfl 62 rfl rfl ?_;have hE:=AaI w;rcases hq:Da (l.getD a 0)with _ | ⟨n,r,m⟩
 ·refine gS (YT (l:=l) (i:=a) Eu rfl rfl (ha) (gS (X4 JX rfl (((show Calls _ _ _ _ (fun e w2=>e = .returned (.tuple #[.int .i64 ((-1):Int), .int .i32 ((0:Nat):Int), .int .i32 ((0:Nat):Int)])/\Ext w w2)from by have h:=MG w (l.getD a 0);rw[hq]at h;exact h)).mono ?_))));rintro e w4 ⟨rfl,y⟩;refine⟨_,rfl,?_⟩;refine gS (AaK (vs:= [.int .i64 ((-1):Int), .int .i32 ((0:Nat):Int), .int .i32 ((0:Nat):Int)]) rfl rfl (gS (AaK (vs:= [.int .i64 ((-1):Int), .int .i32 ((0:Nat):Int), .int .i32 ((0:Nat):Int)]) rfl rfl (gS (AaK (vs:= [.int .i64 ((-1):Int), .int .i32 ((0:Nat):Int), .int .i32 ((0:Nat):Int)]) rfl rfl (gS (X0 rfl rfl (U1 _ .i64 ((-1):Int) ((0:Nat):Int)) (kT (by decide) (gN rfl rfl rfl rfl (gN rfl rfl rfl rfl (gN rfl rfl rfl rfl (gN rfl rfl rfl rfl (gN rfl rfl rfl rfl (gN rfl rfl rfl rfl (gS (Yo rfl rfl (cT rfl (JU rfl (vr (.int .i32 ((0:Nat):Int)) rfl) (vr (NI 0) rfl) (vr (.bool (false)) rfl) ?_))))))))))))))))));have hE:=hE.trans y;exact⟨⟨_,_,_,rfl,QV hq⟩,hE⟩
 obtain⟨p,z,ad,hm⟩:=Pg hq;refine gS (YT (l:=l) (i:=a) Eu rfl rfl (ha) (gS (X4 JX rfl (((show Calls _ _ _ _ (fun e w2=>e = .returned (.tuple #[NI n, .int .i32 ((r:Nat):Int), .int .i32 ((m:Nat):Int)])/\Ext w w2)from by have h:=MG w (l.getD a 0);rw[hq]at h;exact h)).mono ?_))));rintro e ae ⟨rfl,s⟩;refine⟨_,rfl,?_⟩;refine gS (AaK (vs:= [NI n, .int .i32 ((r:Nat):Int), .int .i32 ((m:Nat):Int)]) rfl rfl (gS (AaK (vs:= [NI n, .int .i32 ((r:Nat):Int), .int .i32 ((m:Nat):Int)]) rfl rfl (gS (AaK (vs:= [NI n, .int .i32 ((r:Nat):Int), .int .i32 ((m:Nat):Int)]) rfl rfl (gS (X0 (a:=(n:Nat)) (b:=(0:Nat)) rfl rfl (Bh _ _ _ _) (kF (by omega) (gY rfl rfl (gY rfl rfl (gS (YG (l:=l) Eu rfl (gY rfl rfl (gY rfl rfl (gS (X9 (xv:=NI l.length) (yv:=NI a) rfl rfl rfl (EY _ _ _ (by omega) (by omega)) (gY rfl rfl (gY rfl rfl (gS (X0 (a:=((l.length)-(a):Nat)) (b:=(n:Nat)) rfl rfl (EH _ _ _ _) (gS (YB rfl rfl ?_))))))))))))))))))))));refine cD rfl (fun g=> ?_) fun g=> ?_
 ·refine JU rfl (vr (.int .i32 ((0:Nat):Int)) rfl) (vr (NI 0) rfl) (vr (.bool (false)) rfl) ?_;have hE:=hE.trans s;exact⟨⟨_,_,_,rfl,Pf hq (of_decide_eq_true (by simpa using g))⟩,hE⟩
 have hs:¬l.length-a<=n:=fun h=>by simp[h]at g
 have hE:=hE.trans s;refine gL (fun(ρ:Ah) (wz:Abw)=>∃i:Nat,∃q:Nat,ρ 0=(St (l):Abv)/\ρ 1=(NI a:Abv)/\ρ 7=(NI n:Abv)/\ρ 9=(.int .i32 ((m:Nat):Int):Abv)/\ρ 30=(NI n:Abv)/\ρ 31=(NI i:Abv)/\ρ 8=(.int .i32 ((q:Nat):Int):Abv)/\Ext w wz/\(i<=n)/\(q<2^(7+6*i))/\(Fa l (a+1) n r=Fa l (a+1+i) (n-i) q)/\True) (fun ρ _=>n-(intOf (ρ 31)).toNat) ⟨0,r,rfl,rfl,rfl,rfl,rfl,rfl,rfl,hE,AbT _,z,rfl,trivial⟩ ?_;clear hE;rintro aa af ⟨i,q,t,T1,u,v,x,c,f,hE,hi,hqb,ht,-⟩;have q31:=c;refine gS (X0 (a:=(i:Nat)) (b:=(n:Nat)) c x (Bh _ _ _ _) ?_);refine cD rfl (fun j=> ?_) fun j=> ?_
 ·have hlt:i<n:=j;refine gS (X9 (xv:=NI a) (yv:=NI 1) T1 rfl rfl (AI _ _ _ (by omega)) (gS (X9 (xv:=NI ((a)+(1))) (yv:=NI i) rfl c rfl (AI _ _ _ (by omega)) (gS (YT (l:=l) (i:=((a)+(1))+(i)) Eu t rfl (by omega) (gS (X9 (xv:= .int .u8 (((l.getD (((a)+(1))+(i)) 0).toNat:Nat):Int)) (yv:= .int .u8 ((192:Nat):Int)) rfl rfl rfl (H5 _ _ _ (UInt8.toNat_lt _) (by decide)) (gS (X0 (a:=(((l.getD (((a)+(1))+(i)) 0).toNat)&&&(192):Nat)) (b:=(128:Nat)) rfl rfl (Bc _ _ _ _) ?_)))))))));refine cD rfl (fun o=> ?_) fun o=> ?_
  ·refine JU rfl (vr (.int .i32 ((0:Nat):Int)) rfl) (vr (NI 0) rfl) (vr (.bool (false)) rfl) ?_;exact⟨⟨_,_,_,rfl,S9 hq (ht.trans (QU hlt o))⟩,hE⟩
  refine gS (X9 (xv:= .int .i32 ((q:Nat):Int)) (yv:= .int .u64 ((6:Nat):Int)) f rfl rfl (Vr _ (q) _ (6) (by decide) (IU hqb hlt p)) (gS (X9 (xv:= .int .u8 (((l.getD (((a)+(1))+(i)) 0).toNat:Nat):Int)) (yv:= .int .u8 ((63:Nat):Int)) rfl rfl rfl (H5 _ _ _ (UInt8.toNat_lt _) (by decide)) (gS (YO u5 Fe rfl (Et (((l.getD (((a)+(1))+(i)) 0).toNat)&&&(63)) (U6 _)) (gS (X9 (xv:= .int .i32 (((q)*2^(6):Nat):Int)) (yv:= .int .i32 ((((l.getD (((a)+(1))+(i)) 0).toNat)&&&(63):Nat):Int)) rfl rfl rfl (Wy _ ((q)*2^(6)) (((l.getD (((a)+(1))+(i)) 0).toNat)&&&(63)) (IU hqb hlt p) (U6 _)) (gS (X9 (xv:=NI i) (yv:=NI 1) c rfl rfl (AI _ _ _ (by omega)) (gK (AcC ⟨i+1,(q*2^6|||((l.getD (a+1+i) 0).toNat&&&63)),t,T1,u,v,x,rfl,rfl,hE,by omega,NW hqb,ht.trans (Pe hlt (Decidable.of_not_not o)),trivial⟩ ?_)))))))))));show n-(intOf (NI ((i)+(1)))).toNat<n-(intOf (aa 31)).toNat;rw[q31];simp only[intOf,Ab2];omega
 have hni:¬i<n:=j;refine gS (X9 (xv:=NI a) (yv:=NI n) T1 u rfl (AI _ _ _ (by omega)) (gS (X9 (xv:=NI ((a)+(n))) (yv:=NI 1) rfl rfl rfl (AI _ _ _ (by omega)) (gS (X0 (a:=(q:Nat)) (b:=(m:Nat)) f v (E7 _ _ _ _) (gO fun _=>Af (.int .i32 ((q:Nat):Int)) rfl rfl (gT rfl) (fun hG27=>AaP f ⟨rfl,rfl⟩) (Av (gO fun _=>Cd (.bool (MC q)) rfl rfl (gT rfl) (fun hG28=>X4 Pm (Ai rfl hG28) ((Po _ q).mono (by rintro e w2 ⟨rfl,hx⟩;exact⟨_,rfl,rfl,hx⟩))) fun ag ab=>Av (gS (Yg rfl (fun hA=>(Ai rfl hA)) rfl fun bb32 hbb33=>(JU rfl f (vr (NI (((a)+(n))+(1))) rfl) (vr (.bool (bb32)) rfl) ?_)))))))))));subst hbb33;have hE:=hE.trans ab;exact⟨⟨_,_,_,rfl,Vt hq hs (ht.trans (by rw[show n-i=0 by omega];rfl))⟩,hE⟩
theorem Le(w:Abw)(l:Bs)(hl:l.length<=4611686018427387904):
  Calls Abx 130 #[St l] w fun e w' =>(∃p,e = .returned (.tuple #[NI p,NI (if Eg l 0=true then 0 else 5)]))/\Ext w w' :=by
 refine gG (args:= [St (l)]) Tryz.func130 rfl 22 rfl rfl ?_;have hE:=AaI w;refine gL (fun(ρ:Ah) (wz:Abw)=>∃p:Nat,ρ 0=(St (l):Abv)/\ρ 2=(NI p:Abv)/\Ext w wz/\(p<=l.length)/\(Eg l 0=Eg l p)/\True) (fun ρ _=>l.length-(intOf (ρ 2)).toNat) ⟨0,rfl,rfl,hE,AbT _,rfl,trivial⟩ ?_;clear hE;rintro j m ⟨p,f,c,hE,hp,ht,-⟩;have q2:=c;refine gS (YG (l:=l) Eu f (gS (X0 (a:=(p:Nat)) (b:=(l.length:Nat)) c rfl (Bh _ _ _ _) ?_)));refine cD rfl (fun g=> ?_) fun g=> ?_
 ·have hlt:p<l.length:=g;refine gS (X5 Pn f c ((NX _ l p hlt hl).mono ?_));rintro e n ⟨⟨r,b,k,rfl,hd⟩,i⟩;refine⟨_,rfl,?_⟩;refine gS (AaK (vs:= [.int .i32 ((r:Nat):Int),NI b, .bool (k)]) rfl rfl (gS (AaK (vs:= [.int .i32 ((r:Nat):Int),NI b, .bool (k)]) rfl rfl (gS (AaK (vs:= [.int .i32 ((r:Nat):Int),NI b, .bool (k)]) rfl rfl (gS (Yi rfl ?_)))))));refine cB (!(k)) rfl (fun h=> ?_) fun h=> ?_
  ·have hk:k=false:=by simpa using h
   rw[hk,if_neg (by decide)]at hd;refine DC rfl c (vr (NI 5) rfl) ?_;have hE:=hE.trans i;exact⟨⟨_,by rw[ht,QW hlt hd];rfl⟩,hE⟩
  have hk:k=true:=by simpa using h
  rw[if_pos hk]at hd;have hE:=hE.trans i;refine gK (AcC ⟨b,f,rfl,hE,(KN hd).2,ht.trans (Lb hlt hd),trivial⟩ ?_);show l.length-(intOf (NI b)).toNat<l.length-(intOf (j 2)).toNat;rw[q2];have:=KN hd;simp only[intOf,Ab2];omega
 have hlt:=g;refine DC rfl (vr (NI 0) rfl) (vr (NI 0) rfl) ?_;exact⟨⟨_,by rw[ht,Jm (show ¬p<l.length by omega)];rfl⟩,hE⟩
theorem MH(w:Abw)(r:Nat):
  Calls Abx 88 #[.int .i32 (r:Int)] w fun e w' =>e = .returned (.bool true)/\Ext w w' :=by
 refine gG (args:= [.int .i32 ((r:Nat):Int)]) Tryz.func88 rfl 3 rfl rfl ?_;have hE:=AaI w;refine AC rfl (vr (.bool (true)) rfl) ?_;exact⟨rfl,hE⟩
theorem Q4(w:Abw)(l:Bs)(hl:l.length<=4611686018427387904):
  Calls Abx 87 #[St l, .func (.func 88) #[] #[]] w fun e w' =>e = .returned (.bool (Eg l 0))/\Ext w w' :=by
 refine gG (args:= [St (l), .func (.func 88) #[] #[]]) Tryz.func87 rfl 25 rfl rfl ?_;have hE:=AaI w;rcases hT:Eg l 0 with _ | _
 ·refine gS (X4 JY rfl (((show Calls _ _ _ _ (fun e w2=>(∃p,e = .returned (.tuple #[NI p,NI 5]))/\Ext w w2)from by have h:=Le w l hl;rw[hT]at h;exact h)).mono ?_));rintro e w5 ⟨⟨p0,rfl⟩,s⟩;refine⟨_,rfl,?_⟩;refine gS (AaK (vs:= [NI p0,NI 5]) rfl rfl (gS (AaK (vs:= [NI p0,NI 5]) rfl rfl (gS (X0 (a:=(5:Nat)) (b:=(0:Nat)) rfl rfl (Bc _ _ _ _) (kT (by decide) (cT rfl (AC rfl (vr (.bool (false)) rfl) ?_))))))));have hE:=hE.trans s;exact⟨by first | rfl | rw[hT],hE⟩
 refine gS (X4 JY rfl (((show Calls _ _ _ _ (fun e w2=>(∃p,e = .returned (.tuple #[NI p,NI 0]))/\Ext w w2)from by have h:=Le w l hl;rw[hT]at h;exact h)).mono ?_));rintro e k ⟨⟨p0,rfl⟩,t⟩;refine⟨_,rfl,?_⟩;refine gS (AaK (vs:= [NI p0,NI 0]) rfl rfl (gS (AaK (vs:= [NI p0,NI 0]) rfl rfl (gS (X0 (a:=(0:Nat)) (b:=(0:Nat)) rfl rfl (Bc _ _ _ _) (kF (by decide) (cF rfl (gS (Z4 (l:=l) Eu rfl fun f u ae m n af=> ?_)))))))));have c:=AaI k;have hE:=hE.trans t;have v:=hE.size;have o:=m;clear m;have ag:f<u.heap.size:=by omega
 have hE:=hE.trans n;have c:=c.trans n;refine gL (fun(ρ:Ah) (wz:Abw)=>∃p:Nat,ρ 0=(St (l):Abv)/\ρ 1=(.func (.func 88) #[] #[]:Abv)/\ρ 6=(NI 0:Abv)/\ρ 15=(.bool (false):Abv)/\ρ 17=(PQ f 0:Abv)/\Ext w wz/\Ext k wz/\wz.heap[f]? =some (.stringIter ⟨l.toArray⟩ p)/\True) (fun ρ wz=>l.length-wz.iterPos f) ⟨0,rfl,rfl,rfl,rfl,rfl,hE,c,o,trivial⟩ ?_;clear o;clear hE;rintro ah x ⟨p,y,T1,z,aa,i,hE,c,hI,-⟩;have hI0:=JV hI;by_cases hlt:p<l.length
 ·refine gS (Aah (l:=l) (p:=p) i hI hlt fun ab g ai aj q r ak=> ?_);clear hI;have hI:=q;clear q;have al:=bl hI;refine gS (AaK (vs:= [.bool (true),NI p, .int .i32 ((g:Nat):Int)]) rfl rfl (cT rfl (gS (AaK (vs:= [.bool (true),NI p, .int .i32 ((g:Nat):Int)]) rfl rfl (gS (Yv Q2 (caps:= #[]) T1 #[.int .i32 ((g:Nat):Int)] (by simp only[AbL,AbO,AbS,Ack,Ab5,Acg];exact congrArg Ab6 (E8 rfl)) ((MH _ g).mono ?_)))))));rintro e ac ⟨rfl,j⟩;refine⟨_,rfl,?_⟩;have hE:=Ad hE r (Abz v (by omega));have hE:=hE.trans j;have c:=Ad c r (Abz (AbA _) (by omega));have c:=c.trans j;have hI:=eb j hI;refine gS (Yi rfl (cF rfl (gK (AcC ⟨ab,y,T1,z,aa,i,hE,c,hI,trivial⟩ ?_))));show l.length-ac.iterPos f<l.length-x.iterPos f;rw[JV hI,hI0];omega
 refine gS (Z5 (l:=l) (p:=p) i hI hlt (gS (AaK (vs:= [.bool (false)]) rfl rfl (cF rfl (AC rfl (vr (.bool (true)) rfl) ?_)))));exact⟨by first | rfl | rw[hT],hE⟩
theorem MI(w:Abw)(l:Bs):
  Calls Abx 35 #[St l] w fun e w' =>e = .returned (.bool (Ci l))/\Ext w w' :=by
 refine FV (args:= [St (l)]) Tryz.func35 rfl 10 rfl rfl ?_;have hE:=AaI w;refine gS (YG (l:=l) Eu rfl (gS (X0 (a:=(l.length:Nat)) (b:=(256:Nat)) rfl rfl (EH _ _ _ _) (gO fun _=>Af (St (l)) rfl rfl (gT rfl) (fun hG3=>AaP rfl ⟨rfl,rfl⟩) (Av (gO fun _=>Cd (.bool (Eg l 0)) rfl rfl (gT rfl) (fun hG4=>X5 Q3 (Ai rfl hG4) rfl ((Q4 _ l (by first | omega | (simp only[gA,gB,gC,gD,gE]at hG4;omega))).mono (by rintro e w2 ⟨rfl,hx⟩;exact⟨_,rfl,rfl,hx⟩))) fun f c=>Av (gS (Yg rfl (fun hA=>(Ai rfl hA)) rfl fun bb8 hbb9=>(AC rfl (vr (.bool (bb8)) rfl) ?_)))))))));subst hbb9;have hE:=hE.trans c;exact⟨rfl,hE⟩
open Go.WideMaps (KeyLaw)
structure KL (P : AbQ) (k : AbC) (OK : Abv -> Prop) : Prop where
 check:∀(w:Abw) (em:Bool) {v:Abv},OK v->(Instr.checkKey em 10000 k v).run P w = .ok () w
 find:∀(w:Abw) {x:Abv},OK x->∀es:List AdR,(∀e∈es,OK e.key) ->
  ((Instr.findKey k x es).run P w = .ok none w/\∀e∈es,e.key≠x)\/∃j e,(Instr.findKey k x es).run P w = .ok (some (j,e.val)) w/\es[j]? =some e/\e.key=x
 stays:∀(w:Abw) {v:Abv},OK v->(Instr.keyThatStays v v).run P w = .ok v w
theorem ZB{P:AbQ}{k:AbC}{d:TypeDesc}(hd:P.underlying k=some d):KL P k (Aev d):=
 ⟨fun w em _ h=>MapKept.run_checkKey hd h em 9999,fun w x h es he=>by
  rcases MapKept.findNow_spec h es 0 he with ⟨h1,h2⟩ | ⟨j,e,h1,h2,h3⟩
  ·exact .inl ⟨Agp hd h1,h2⟩
  ·rw[Adg]at h1;exact .inr ⟨j,e,Agp hd h1,h2,h3⟩,fun w _ h=>MapKept.run_keyThatStays h⟩
section
variable {α β : Type} (ek : α -> Abv) (ev : β -> Abv) (D : α -> Prop)
structure Xd (G : α -> Option β) (es : List AdR) : Prop where
 keys:(es.map (·.key)).Nodup
 ent:∀e∈es,∃a y,D a/\e.key=ek a/\e.val=ev y/\G a=some y
 all:∀a y,G a=some y->D a/\∃e∈es,e.key=ek a
def MapF(w:Abw)(b:Nat)(G:α->Option β):Prop:=∃es clock,w.heap[b]? =some (.map es.toArray clock)/\Xd ek ev D G es/\AeX es.toArray clock
end
theorem NY{es es' :List AdR}{c:Nat}(hs:es'.Sublist es)(h:AeX es.toArray c):AeX es'.toArray c:=by
 obtain⟨h1,h2,h3⟩:=h;exact⟨fun x hx=>h1 x (hs.subset hx),(hs.map _).nodup h2,(hs.map _).nodup h3⟩
def updM{α β:Type}[DecidableEq α](G:α->Option β)(a:α)(y:Option β)(c:α):Option β:=if c=a then y else G c
section
variable {α β : Type} {ek : α -> Abv} {ev : β -> Abv} {D : α -> Prop} {P : AbQ} {w w' : Abw} {b : Nat} {G : α -> Option β}
theorem MapF.keep(h:MapF ek ev D w b G)(k:Ext w w'):MapF ek ev D w' b G:=by
 obtain⟨es,c,h2,h3⟩:=h;exact⟨es,c,YI k h2,h3⟩
theorem MapF.lt(h:MapF ek ev D w b G):b<w.heap.size:=by
 obtain⟨es,c,h2,h3⟩:=h;exact(Acj.1 h2).1
theorem MapF.other{r:Option Nat}(h:MapF ek ev D w b G)(k:w.grownBy w' r)(hr:r≠some b):MapF ek ev D w' b G:=by
 have hl:=h.lt;obtain⟨es,c,h2,h3⟩:=h;exact⟨es,c,(k.block b hl (fun e=>hr e.symm)).trans h2,h3⟩
abbrev AaX:=@MapF.other
theorem Aai{v v' :Abv}(h:MapF ek ev D w b G)(g:Grew w w' v v')(hv:v.ownBlock≠some b):MapF ek ev D w' b G:=h.other g.by_ hv
theorem Aaj(ek:α->Abv)(ev:β->Abv)(D:α->Prop)(w:Abw):MapF ek ev D (w.alloc (.map #[] 0)) w.heap.size (fun _=>none):=
 ⟨[],0,heap_alloc_new w _,⟨by simp,by simp,fun _ _ h=>by cases h⟩,MapKept.stamped_empty 0⟩
section
variable {t K E : AbC} {OK : Abv -> Prop} (L : KL P K OK) (hD : ∀ a, D a -> OK (ek a)) (hi : ∀ a c, ek a = ek c -> a = c) (ht : P.underlying t = some (.map K E))
include L hD hi ht
theorem MapF.look{z:Abv}(hz:∀u:Abw,(zeroValue E).run P u = .ok z u)(h:MapF ek ev D w b G){a:α}(ha:D a)(ok:Bool):
  (AgB t (.map (some b)) (ek a) ok).run P w = .ok (if ok then .tuple #[(G a).elim z ev, .bool (G a).isSome]else(G a).elim z ev) w:=by
 obtain⟨es,c,hb,H,hS⟩:=h;have hkeys:∀e∈es,OK e.key:=fun e he=>by
  obtain⟨q,y,k1,k2,-⟩:=H.ent e he;rw[k2];exact hD q k1
 rcases L.find w (hD a ha) es hkeys with ⟨f1,f2⟩ | ⟨j,f,f1,f2,f3⟩
 ·have hG:G a=none:=by
   cases hG:G a with
   | none=>rfl
   | some y=>
    obtain⟨-,e,he,hek⟩:=H.all a y hG;exact absurd hek (f2 e he)
  cases ok <;> simp[AgB,run_underlying ht,Adq hb,L.check w _ (hD a ha),f1,hz,Acm,hG]
 ·obtain⟨q,y,k1,k2,k3,k4⟩:=H.ent f (AdV f2);have:q=a:=hi _ _ (k2.symm.trans f3);subst this;cases ok <;> simp[AgB,run_underlying ht,Adq hb,L.check w _ (hD q ha),f1,Acm,k4,k3]
variable [DecidableEq α]
omit hi in
theorem MapF.put(h:MapF ek ev D w b G){a:α}(ha:D a)(y:β):
  ∃w',(AfS t (.map (some b)) (ek a) (ev y)).run P w = .ok () w' /\MapF ek ev D w' b (updM G a (some y))/\w.grownBy w' (some b)/\w'.heap.size=w.heap.size:=by
 obtain⟨es,c,hb,H,hS⟩:=h;have hkeys:∀e∈es,OK e.key:=fun e he=>by
  obtain⟨q,y,k1,k2,-⟩:=H.ent e he;rw[k2];exact hD q k1
 have hblt:b<w.heap.size:=(Acj.1 hb).1;have hgr:∀o,w.grownBy { w with heap:=w.heap.setIfInBounds b o } (some b):=fun o=>⟨rfl,rfl,rfl,by simp,fun i _ hi=>by simp only[Adm];rw[if_neg (fun e=>hi (by rw[e]))]⟩;have hnew:∀o,({ w with heap:=w.heap.setIfInBounds b o } :Abw).heap[b]? =some o:=fun o=>by simp[hblt]
 rcases L.find w (hD a ha) es hkeys with ⟨f1,f2⟩ | ⟨j,g,f1,f2,f3⟩
 ·have hnone:∀x,G a≠some x:=fun x hx=>by
   obtain⟨-,e,he,hek⟩:=H.all a x hx;exact f2 e he hek
  refine⟨{ w with heap:=w.heap.setIfInBounds b (.map (es++ [({ key:=ek a,val:=ev y,born:=c } :AdR)]).toArray (c+1)) },?_,⟨_,_,hnew _,⟨?_,?_,?_⟩,by have:=MapKept.stamped_push hS (key:=ek a) (val:=ev y) (fun x hx=>f2 x (by simpa using hx));simpa using this⟩,hgr _,by simp⟩
  ·simp[AfS,run_underlying ht,Adq hb,L.check w false (hD a ha),f1,Aec _ hb,Acm]
  ·simp only[List.map_append,AbO,AbS];refine List.nodup_append.2 ⟨H.keys,by simp,fun x hx z hz e=> ?_⟩;obtain⟨f,he1,rfl⟩:=Acq.1 hx;simp at hz;exact f2 f he1 (e.trans hz)
  ·intro e he;rcases List.mem_append.1 he with h1 | h1
   ·obtain⟨q,z,k1,k2,k3,k4⟩:=H.ent e h1;refine⟨q,z,k1,k2,k3,?_⟩;unfold updM;rw[if_neg (fun f=>f2 e h1 (by rw[k2,f]))];exact k4
   ·rw[Acd.1 h1];exact⟨a,y,ha,rfl,rfl,by unfold updM;rw[if_pos rfl]⟩
  ·intro q z hq;unfold updM at hq;split at hq
   ·rename_i f
    subst f;exact⟨ha,_,List.mem_append_right _ (Acd.2 rfl),rfl⟩
   ·obtain⟨k1,e,he,hek⟩:=H.all q z hq;exact⟨k1,e,List.mem_append_left _ he,hek⟩
 ·obtain⟨q0,y0,k1,k2,k3,k4⟩:=H.ent g (AdV f2);have hjl:j<es.length:=(AbZ.1 f2).1;have hkeq:(es.modify j fun e=> { e with key:=ek a,val:=ev y }).map (·.key)=es.map (·.key):=by
   rw[Go.ChangeMaps.modify_eq_set _ _ _ _ f2,List.map_set];exact Go.WideElems.set_self _ _ _ (by rw[List.getElem?_map,f2];simp[f3])
  have hj:es.toArray[j]? =some g:=by simpa using f2
  refine⟨{ w with heap:=w.heap.setIfInBounds b (.map (es.modify j fun e=> { e with key:=ek a,val:=ev y }).toArray c) },?_,⟨_,_,hnew _,⟨?_,?_,?_⟩,by have:=MapKept.stamped_modify hS j (fun e=> { e with key:=ek a,val:=ev y }) (fun _ _=>rfl) (fun e _ he=>by rw[hj]at he;cases he;exact f3.symm);rwa [List.modify_toArray]at this⟩,hgr _,by simp⟩
  ·simp[AfS,run_underlying ht,Adq hb,L.check w false (hD a ha),f1,f2,f3,L.stays w (hD a ha),Aec _ hb,Acm]
  ·rw[hkeq];exact H.keys
  ·intro e he;rw[Go.ChangeMaps.modify_eq_set _ _ _ _ f2]at he;obtain⟨i,hil,hie⟩:=Ac0.1 he;rw[List.getElem_set]at hie;split at hie
   ·subst hie;exact⟨a,y,ha,rfl,rfl,by unfold updM;rw[if_pos rfl]⟩
   ·rename_i hne
    have hil2:i<es.length:=by simpa using hil
    obtain⟨q,z,m1,m2,m3,m4⟩:=H.ent e (hie▸Ade hil2);refine⟨q,z,m1,m2,m3,?_⟩;unfold updM;rw[if_neg ?_]
    ·exact m4
    ·intro f;subst f
     apply hne
     have hn:=H.keys;have k:(es.map (·.key))[j]'(by simpa using hjl)=(es.map (·.key))[i]'(by simpa using hil2):=by
      simp only[List.getElem_map];rw[hie,m2,<-f3];exact congrArg MapEntry.key (AbZ.1 f2).2
     exact(List.getElem_inj hn).1 k
  ·intro q z hq;have hmem:∀x,x∈es.map (·.key)->∃e∈(es.modify j fun e=> { e with key:=ek a,val:=ev y }),e.key=x:=fun x hx=>by
    rw[<-hkeq]at hx;obtain⟨e,he,rfl⟩:=Acq.1 hx;exact⟨e,he,rfl⟩
   unfold updM at hq;split at hq
   ·rename_i f
    subst f;exact⟨ha,hmem _ (Acq.2 ⟨g,AdV f2,f3⟩)⟩
   ·obtain⟨k1,e,he,hek⟩:=H.all q z hq;exact⟨k1,hmem _ (Acq.2 ⟨e,he,hek⟩)⟩
theorem MapF.del{ty:AbC}(h:MapF ek ev D w b G){a:α}(ha:D a):
  ∃w',(AfT #[t,K] ty #[.map (some b),ek a]).run P w = .ok (.tuple #[]) w' /\MapF ek ev D w' b (updM G a none)/\w.grownBy w' (some b)/\w'.heap.size=w.heap.size:=by
 obtain⟨es,c,hb,H,hS⟩:=h;have hkeys:∀e∈es,OK e.key:=fun e he=>by
  obtain⟨q,y,k1,k2,-⟩:=H.ent e he;rw[k2];exact hD q k1
 have hblt:b<w.heap.size:=(Acj.1 hb).1;have hgr:∀o,w.grownBy { w with heap:=w.heap.setIfInBounds b o } (some b):=fun o=>⟨rfl,rfl,rfl,by simp,fun i _ hi=>by simp only[Adm];rw[if_neg (fun e=>hi (by rw[e]))]⟩;have hnew:∀o,({ w with heap:=w.heap.setIfInBounds b o } :Abw).heap[b]? =some o:=fun o=>by simp[hblt]
 rcases L.find w (hD a ha) es hkeys with ⟨f1,f2⟩ | ⟨j,k,f1,f2,f3⟩
 ·have hG:G a=none:=by
   cases hG:G a with
   | none=>rfl
   | some y=>
    obtain⟨-,e,he,hek⟩:=H.all a y hG;exact absurd hek (f2 e he)
  have hU:updM G a none=G:=by
   funext x
   unfold updM;split
   ·rename_i e;rw[e,hG]
   ·rfl
  rw[hU];refine⟨{ w with heap:=w.heap.setIfInBounds b (.map es.toArray c) },?_,⟨_,_,hnew _,H,hS⟩,hgr _,by simp⟩;simp[AfT,run_underlying ht,Adq hb,L.check w _ (hD a ha),f1,Aec _ hb,Acm]
 ·have hjl:j<es.length:=(AbZ.1 f2).1;have hne:∀e∈es.eraseIdx j,e.key≠ek a:=fun e he hk=>by
   obtain⟨i,hil,hie⟩:=Ae0.1 he;obtain⟨hij,hie⟩:=hie;have g:(es.map (·.key))[j]'(by simpa using hjl)=(es.map (·.key))[i]'(by simpa using hil):=by
    simp only[List.getElem_map];rw[hie,hk,<-f3];exact congrArg MapEntry.key (AbZ.1 f2).2
   exact hij ((List.getElem_inj H.keys).1 g).symm
  refine⟨{ w with heap:=w.heap.setIfInBounds b (.map (es.eraseIdx j).toArray c) },?_,⟨_,_,hnew _,⟨?_,?_,?_⟩,NY (Aej _ _) hS⟩,hgr _,by simp⟩
  ·simp[AfT,run_underlying ht,Adq hb,L.check w _ (hD a ha),f1,Aec _ hb,Acm]
  ·exact H.keys.sublist ((Aej _ _).map _)
  ·intro e he;obtain⟨q,z,m1,m2,m3,m4⟩:=H.ent e ((Aej _ _).subset he);refine⟨q,z,m1,m2,m3,?_⟩;unfold updM;rw[if_neg (fun f=>hne e he (by rw[m2,f]))];exact m4
  ·intro q z hq;unfold updM at hq;split at hq
   ·cases hq
   ·rename_i hqa
    obtain⟨k1,e,he,hek⟩:=H.all q z hq;refine⟨k1,e,?_,hek⟩;obtain⟨i,hil,hie⟩:=Ac0.1 he;refine Ae0.2 ⟨i,hil,fun f=> ?_,hie⟩;subst f
    apply hqa
    refine hi _ _ (hek.symm.trans ?_);rw[<-f3,<-hie];exact congrArg MapEntry.key (AbZ.1 f2).2
end
end
theorem Ck{a b:Nat}(h:a≠b):some a≠some b:=fun e=>h (Option.some.inj e)
def Cw(u v:Abv):Prop:=∀k,u.ownBlock=some k->v.ownBlock≠some k
section
variable {N B : Nat} {r : Option Nat} {w w' w1 w0 : Abw} {e t : AbC}
theorem Ma{z n:Nat}{v:Abv}{xs:List Abv}(ho:w.ownsRow B e z v n xs)(k:w.grownBy w1 r)(ha:∀k,r=some k->v.ownBlock≠some k):w1.ownsRow B e z v n xs:=
 ho.kept k (by
  cases hv:v.ownBlock with
  | none=>exact .inl rfl
  | some g=>exact .inr (fun e=>ha g e.symm hv))
theorem JZ{u v:Abv}{b:Nat}{e' :AbC}{z n z' n' :Nat}{xs ys:List Abv}(hu:w.ownsRow b e z u n xs)(hv:w'.ownsRow w.heap.size e' z' v n' ys):Cw u v:=fun k h1 h2=>by
 have:=(hu.lt k h1).2;have:=(hv.lt k h2).1;omega
theorem NZ{u v v' :Abv}{b:Nat}{z n:Nat}{xs:List Abv}(gr:Grew w w' v v')(ha:Cw v u)(hu:w.ownsRow b e z u n xs):Cw v' u:=fun k h1 h2=>by
 rcases gr.fresh k h1 with h3 | h3
 ·exact ha k h3 h2
 ·have:=(hu.lt k h2).2;omega
theorem Jo{v v' u:Abv}{b:Nat}{z n:Nat}{xs:List Abv}(hu:w.ownsRow b e z u n xs)(gr:Grew w w' v v')(ha:Cw v u):w'.ownsRow b e z u n xs:=Ma hu gr.by_ ha
theorem GY{α:Type}{k b:Nat}{enc:α->List Abv}{v v' u:Abv}{l:List α}(hu:OG b e k enc w u l)(gr:Grew w w' v v')(ha:Cw v u):OG b e k enc w' u l:=⟨hu.1,Jo hu.2 gr ha⟩
end
theorem Q5:Plain Abx 128:=fun _ _=>by kernel_rfl
theorem Q6:Plain Abx 129:=fun _ _=>by kernel_rfl
theorem Tb(w:Abw)(c:UInt8):
  Calls Abx 129 #[B8 c] w fun e w' =>e = .returned (.bool (IH c))/\Ext w w' :=by
 refine FV (args:= [B8 (c)]) Tryz.func129 rfl 37 rfl rfl ?_;have hE:=AaI w;refine gS (X0 (a:=((c).toNat:Nat)) (b:=(97:Nat)) rfl rfl (E7 _ _ _ _) (gO fun _=>Af (B8 (c)) rfl rfl (gT rfl) (fun hG3=>AaP rfl ⟨rfl,rfl⟩) (Av (gO fun _=>Af (.bool (decide (((c).toNat)<=(122)))) rfl rfl (gT rfl) (fun hG4=>X0 (a:=(((c).toNat:Nat):Int)) (b:=((122:Nat):Int)) (Ai rfl hG4) rfl (EH _ .u8 ((c).toNat) (122)) ⟨rfl,rfl⟩) (Av (gS (Yg rfl (fun hA=>(Ai rfl hA)) rfl fun bb5 hbb6=>(gO fun _=>Af (B8 (c)) rfl rfl (gF rfl) (fun hG7=>AaP rfl ⟨rfl,rfl⟩) (Av (gO fun _=>Af (.bool (decide ((65)<=((c).toNat)))) rfl rfl (gF rfl) (fun hG8=>X0 (a:=(((c).toNat:Nat):Int)) (b:=((65:Nat):Int)) (Ai rfl hG8) rfl (E7 _ .u8 ((c).toNat) (65)) ⟨rfl,rfl⟩) (Av (gO fun _=>Af (.bool (decide ((65)<=((c).toNat)))) rfl rfl (gF rfl) (fun hG9=>AaP (Ai rfl hG9) ⟨rfl,rfl⟩) (Av (gO fun _=>Af (B8 (c)) rfl rfl (FA rfl) (fun hG10=>AaP rfl ⟨rfl,rfl⟩) (Av (gO fun _=>Af (.bool (decide (((c).toNat)<=(90)))) rfl rfl (FA rfl) (fun hG11=>X0 (a:=(((c).toNat:Nat):Int)) (b:=((90:Nat):Int)) (Ai rfl hG11) rfl (EH _ .u8 ((c).toNat) (90)) ⟨rfl,rfl⟩) (Av (gO fun _=>DQ ((decide ((65)<=((c).toNat)))&&(decide (((c).toNat)<=(90)))) rfl rfl (gF rfl) (fun hG12=>YC (Ai rfl hG12) (fun hA=>(Ai rfl (FH hG12 hA))) rfl ⟨rfl,rfl⟩) fun bb13 hbb14=>Av (gS (Yh rfl rfl (fun hA=>(Ai rfl (BP hA))) fun bb15 hbb16=>(gO fun _=>Af (B8 (c)) rfl rfl (gF rfl) (fun hG17=>AaP rfl ⟨rfl,rfl⟩) (Av (gO fun _=>Af (.bool (decide ((48)<=((c).toNat)))) rfl rfl (gF rfl) (fun hG18=>X0 (a:=(((c).toNat:Nat):Int)) (b:=((48:Nat):Int)) (Ai rfl hG18) rfl (E7 _ .u8 ((c).toNat) (48)) ⟨rfl,rfl⟩) (Av ?_))))))))))))))))))))))));refine gO fun _=>Af (.bool (decide ((48)<=((c).toNat)))) rfl rfl (gF rfl) (fun hG19=>AaP (Ai rfl hG19) ⟨rfl,rfl⟩) (Av (gO fun _=>Af (B8 (c)) rfl rfl (FA rfl) (fun hG20=>AaP rfl ⟨rfl,rfl⟩) (Av (gO fun _=>Af (.bool (decide (((c).toNat)<=(57)))) rfl rfl (FA rfl) (fun hG21=>X0 (a:=(((c).toNat:Nat):Int)) (b:=((57:Nat):Int)) (Ai rfl hG21) rfl (EH _ .u8 ((c).toNat) (57)) ⟨rfl,rfl⟩) (Av (gO fun _=>DQ ((decide ((48)<=((c).toNat)))&&(decide (((c).toNat)<=(57)))) rfl rfl (gF rfl) (fun hG22=>YC (Ai rfl hG22) (fun hA=>(Ai rfl (FH hG22 hA))) rfl ⟨rfl,rfl⟩) fun bb23 hbb24=>Av (gS (Yh rfl rfl (fun hA=>(Ai rfl (BP hA))) fun bb25 hbb26=>(gO fun _=>Af (B8 (c)) rfl rfl (gF rfl) (fun hG27=>AaP rfl ⟨rfl,rfl⟩) (Av (gO fun _=>Af (.bool (decide (((c).toNat:Nat)=(45)))) rfl rfl (gF rfl) (fun hG28=>X0 (a:=(((c).toNat:Nat):Int)) (b:=((45:Nat):Int)) (Ai rfl hG28) rfl (AH _ .u8 ((c).toNat) (45)) ⟨rfl,rfl⟩) (Av (gS (Yh rfl rfl (fun hA=>(Ai rfl (BP hA))) fun bb29 hbb30=>(gO fun _=>Af (B8 (c)) rfl rfl (gF rfl) (fun hG31=>AaP rfl ⟨rfl,rfl⟩) (Av (gO fun _=>Af (.bool (decide (((c).toNat:Nat)=(95)))) rfl rfl (gF rfl) (fun hG32=>X0 (a:=(((c).toNat:Nat):Int)) (b:=((95:Nat):Int)) (Ai rfl hG32) rfl (AH _ .u8 ((c).toNat) (95)) ⟨rfl,rfl⟩) (Av (gS (Yh rfl rfl (fun hA=>(Ai rfl (BP hA))) fun bb33 hbb34=>(gO fun _=>Af (B8 (c)) rfl rfl (gF rfl) (fun hG35=>AaP rfl ⟨rfl,rfl⟩) (Av (gO fun _=>Af (.bool (decide (((c).toNat:Nat)=(46)))) rfl rfl (gF rfl) (fun hG36=>X0 (a:=(((c).toNat:Nat):Int)) (b:=((46:Nat):Int)) (Ai rfl hG36) rfl (AH _ .u8 ((c).toNat) (46)) ⟨rfl,rfl⟩) (Av ?_))))))))))))))))))))))));refine gS (Yh rfl rfl (fun hA=>(Ai rfl (BP hA))) fun bb37 hbb38=>(AC rfl (vr (.bool (bb37)) rfl) ?_));subst hbb6 hbb14 hbb16 hbb24 hbb26 hbb30 hbb34 hbb38;exact⟨rfl,hE⟩
theorem Vu(w:Abw)(s:Bs)(hl:s.length≠64):
  Calls Abx 128 #[St s] w fun e w' =>e = .returned (.bool false)/\Ext w w' :=by
 refine gG (args:= [St (s)]) Tryz.func128 rfl 11 rfl rfl ?_;have hE:=AaI w;refine gS (YG (l:=s) Eu rfl (gS (X0 (a:=(s.length:Nat)) (b:=(64:Nat)) rfl rfl (AH _ _ _ _) (kF (hl) (gS (YB rfl rfl (AC rfl (vr (.bool (false)) rfl) ?_)))))));exact⟨rfl,hE⟩
theorem Jp(w:Abw)(s:Bs)(hs:s.length<=9223372036854775807):
  Calls Abx 84 #[St s] w fun e w' =>e = .returned (.bool (Au s))/\Ext w w' :=by
 refine FV (args:= [St (s)]) Tryz.func84 rfl 41 rfl rfl ?_;have hE:=AaI w;refine gS (YG (l:=s) Eu rfl (gS (X0 (a:=(s.length:Nat)) (b:=(1:Nat)) rfl rfl (Bh _ _ _ _) (gO fun _=>Af (St (s)) rfl rfl (gF rfl) (fun hG4=>AaP rfl ⟨rfl,rfl⟩) (Av (gO fun _=>Af (NI s.length) rfl rfl (gF rfl) (fun hG5=>YG (l:=s) Eu (Ai rfl hG5) ⟨rfl,rfl⟩) (Av (gO fun _=>Af (.bool (decide ((32)<(s.length)))) rfl rfl (gF rfl) (fun hG6=>X0 (a:=((s.length:Nat):Int)) (b:=((32:Nat):Int)) (Ai rfl hG6) rfl (DL _ .i64 (s.length) (32)) ⟨rfl,rfl⟩) (Av (gS (Yh rfl rfl (fun hA=>(Ai rfl (BP hA))) fun bb7 hbb8=>(gO fun _=>Af (St (s)) rfl rfl (gF rfl) (fun hG9=>AaP rfl ⟨rfl,rfl⟩) (Av (gO fun _=>Af (B8 (s.getD (0) 0)) rfl rfl (gF rfl) (fun hG10=>YT (l:=s) (i:=0) Eu (Ai rfl hG10) rfl (by first | omega | (simp only[hbb8,gA,gB,gC,gD,gE]at hG10;omega)) ⟨rfl,rfl⟩) (Av (gO fun _=>Af (.bool (decide (((s.getD (0) 0).toNat:Nat)=(46)))) rfl rfl (gF rfl) (fun hG11=>X0 (a:=(((s.getD (0) 0).toNat:Nat):Int)) (b:=((46:Nat):Int)) (Ai rfl hG11) rfl (AH _ .u8 ((s.getD (0) 0).toNat) (46)) ⟨rfl,rfl⟩) (Av (gS (Yh rfl rfl (fun hA=>(Ai rfl (BP hA))) fun bb12 hbb13=>(gO fun _=>Af (St (s)) rfl rfl (gF rfl) (fun hG14=>AaP rfl ⟨rfl,rfl⟩) (Av (gO fun _=>Af (B8 (s.getD (0) 0)) rfl rfl (gF rfl) (fun hG15=>YT (l:=s) (i:=0) Eu (Ai rfl hG15) rfl (by first | omega | (simp only[hbb8,hbb13,gA,gB,gC,gD,gE]at hG15;omega)) ⟨rfl,rfl⟩) (Av (gO fun _=>Af (.bool (decide (((s.getD (0) 0).toNat:Nat)=(45)))) rfl rfl (gF rfl) (fun hG16=>X0 (a:=(((s.getD (0) 0).toNat:Nat):Int)) (b:=((45:Nat):Int)) (Ai rfl hG16) rfl (AH _ .u8 ((s.getD (0) 0).toNat) (45)) ⟨rfl,rfl⟩) (Av (gS (Yh rfl rfl (fun hA=>(Ai rfl (BP hA))) fun bb17 hbb18=> ?_)))))))))))))))))))))))))));refine gO fun _=>Af (St (s)) rfl rfl (gF rfl) (fun hG19=>AaP rfl ⟨rfl,rfl⟩) (Av (gO fun _=>Af (.bool (decide (s=(([72,69,65,68]:AgS):AgS)))) rfl rfl (gF rfl) (fun hG20=>YU (l:=s) (m:=([72,69,65,68]:AgS)) (.inl rfl) (Ai rfl hG20) rfl (decide (s=(([72,69,65,68]:AgS):AgS))) rfl ⟨rfl,rfl⟩) (Av (gS (Yh rfl rfl (fun hA=>(Ai rfl (BP hA))) fun bb21 hbb22=>(gO fun _=>Af (St (s)) rfl rfl (gF rfl) (fun hG23=>AaP rfl ⟨rfl,rfl⟩) (Av (gO fun _=>Cd (.bool (false)) rfl rfl (gF rfl) (fun hG24=>X4 Q5 (Ai rfl hG24) ((Vu _ s (by first | omega | (simp only[hbb8,hbb13,hbb18,hbb22,gA,gB,gC,gD,gE]at hG24;omega))).mono (by rintro e w2 ⟨rfl,hx⟩;exact⟨_,rfl,rfl,hx⟩))) fun q h=>Av (gS (Yh rfl rfl (fun hA=>(Ai rfl (BP hA))) fun bb28 hbb29=> ?_))))))))));refine cB (bb28) rfl (fun c=> ?_) fun c=> ?_
 ·subst hbb8 hbb13 hbb18 hbb22 hbb29;rw[Bool.or_false]at c;refine AC rfl (vr (.bool (false)) rfl) ?_;have hE:=hE.trans h;exact⟨by rw[Pk (s:=s) c],hE⟩
 subst hbb8 hbb13 hbb18 hbb22 hbb29;rw[Bool.or_false]at c;have hh:Hf s=false:=c;have hsl:=Ld hh;have hE:=hE.trans h;refine gS (YG (l:=s) Eu rfl (gL (fun(ρ:Ah) (wz:Abw)=>∃i:Nat,ρ 0=(St (s):Abv)/\ρ 31=(NI s.length:Abv)/\ρ 32=(NI i:Abv)/\Ext w wz/\(i<=s.length)/\((s.take i).all IH=true)/\True) (fun ρ _=>s.length-(intOf (ρ 32)).toNat) ⟨0,rfl,rfl,rfl,hE,AbT _,by simp,trivial⟩ ?_));clear hE;rintro o r ⟨i,j,k,f,hE,hi,ha,-⟩;have q32:=f;refine gS (X0 (a:=(i:Nat)) (b:=(s.length:Nat)) f k (Bh _ _ _ _) ?_);refine cD rfl (fun p=> ?_) fun p=> ?_
 ·refine gS (YT (l:=s) (i:=i) Eu j f (by omega) (gS (X4 Q6 rfl ((Tb _ (s.getD (i) 0)).mono ?_))));rintro e t ⟨rfl,n⟩;refine⟨_,rfl,?_⟩;refine gS (Yi rfl ?_);refine cB (!(IH (s.getD (i) 0))) rfl (fun g=> ?_) fun g=> ?_
  ·refine AC rfl (vr (.bool (false)) rfl) ?_;have hE:=hE.trans n;exact⟨by rw[QZ (show i<s.length by omega) (Xb g)],hE⟩
  have hE:=hE.trans n;refine gS (X9 (xv:=NI i) (yv:=NI 1) f rfl rfl (AI _ _ _ (by omega)) (gK (AcC ⟨i+1,j,k,rfl,hE,by omega,Ta 0 (by omega) ha (Xa g),trivial⟩ ?_)));show s.length-(intOf (NI ((i)+(1)))).toNat<s.length-(intOf (o 32)).toNat;rw[q32];simp only[intOf,Ab2];omega
 refine AC rfl (vr (.bool (true)) rfl) ?_;exact⟨by rw[Q1 hh (by omega) ha],hE⟩
section
variable {P : AbQ} {K : Abv -> Abw -> Prop} {ρ : Ah} {w : Abw} {d : Option Tmp} {ty : AbC} {pos : String} {af : Array Acn} {gd : Option (Nat × Bool)}
variable {α β : Type} {ek : α -> Abv} {ev : β -> Abv} {D : α -> Prop} {b : Nat} {G : α -> Option β}
variable {t Kt E : AbC} {OK : Abv -> Prop}
theorem ZC(L:KL P Kt OK)(hD:∀a,D a->OK (ek a))(hi:∀a c,ek a=ek c->a=c)(ht:P.underlying t=some (.map Kt E)){z:Abv}(hz:∀u:Abw,(zeroValue E).run P u = .ok z u){x y:AbG}{a:α} 
  (hm:Ab ρ x = .map (some b)) (hy:Ab ρ y=ek a) (h:MapF ek ev D w b G) (ha:D a) (hk:K ((G a).elim z ev) w):
  Yk P K ((execOp (Ab ρ) ⟨d, .lookup t x y false,ty,pos,af,gd⟩).run P w):=by
 have hrun:=h.look L hD hi ht hz ha false;refine AaO (v:=(G a).elim z ev) (w' :=w) ?_ hk;unfold execOp;simp only[hm,hy,AbF,hrun,AbE,AbH];rfl
theorem Zp[DecidableEq α](L:KL P Kt OK)(hD:∀a,D a->OK (ek a))(ht:P.underlying t=some (.map Kt E)){x y z:AbG}{a:α}{c:β} 
  (hm:Ab ρ x = .map (some b)) (hy:Ab ρ y=ek a) (hz:Ab ρ z=ev c) (h:MapF ek ev D w b G) (ha:D a) (hk:∀w',MapF ek ev D w' b (updM G a (some c))->w.grownBy w' (some b)->w'.heap.size=w.heap.size->K undef w'):
  Yk P K ((execOp (Ab ρ) ⟨d, .mapUpdate t x y z,ty,pos,af,gd⟩).run P w):=by
 obtain⟨w',hrun,h1,h2,h3⟩:=h.put L hD ht ha c;have hr:(execOp (Ab ρ) ⟨d, .mapUpdate t x y z,ty,pos,af,gd⟩).run P w = .ok .skip w' \/(execOp (Ab ρ) ⟨d, .mapUpdate t x y z,ty,pos,af,gd⟩).run P w = .ok (.value undef) w' :=by
  unfold execOp;simp only[hm,hy,hz,AbF,hrun,AbE,AbH];simp
 rcases hr with hr | hr <;> rw[hr] <;> exact hk w' h1 h2 h3
theorem ZX[DecidableEq α](L:KL P Kt OK)(hD:∀a,D a->OK (ek a))(hi:∀a c,ek a=ek c->a=c)(ht:P.underlying t=some (.map Kt E)){x y:AbG}{a:α} 
  (hm:Ab ρ x = .map (some b)) (hy:Ab ρ y=ek a) (h:MapF ek ev D w b G) (ha:D a) (hk:∀w',MapF ek ev D w' b (updM G a none)->w.grownBy w' (some b)->w'.heap.size=w.heap.size->K (.tuple #[]) w'):
  Yk P K ((execOp (Ab ρ) ⟨d, .call ⟨.builtin .delete,#[x,y],#[t,Kt]⟩,ty,pos,af,gd⟩).run P w):=by
 obtain⟨w',hrun,h1,h2,h3⟩:=h.del L hD hi ht (ty:=ty) ha;refine AaO (v:= .tuple #[]) (w' :=w') ?_ (hk w' h1 h2 h3);unfold execOp;simp only[resolve,invoke,builtin,AbF,AbH,AbE,AbL,AbO,AbS,hm,hy,hrun]
theorem Y6(ek:α->Abv)(ev:β->Abv)(D:α->Prop)(hk:∀g w',w.heap.size=g->MapF ek ev D w' g (fun _=>none)->Ext w w' ->w'.heap.size=g+1->K (.map (some g)) w'):
  Yk P K ((execOp (Ab ρ) ⟨d, .makeMap t none,ty,pos,af,gd⟩).run P w):=by
 refine AaO (v:= .map (some w.heap.size)) (w' :=w.alloc (.map #[] 0)) ?_ (hk _ _ rfl (Aaj ek ev D w) ((Acr _ _).alloc (AbA _) _) (by simp));unfold execOp;simp[Instr.makeMap,newObj,Acm];rfl
theorem YQ(L:KL P Kt OK)(hD:∀a,D a->OK (ek a))(hi:∀a c,ek a=ek c->a=c)(ht:P.underlying t=some (.map Kt E)){z:Abv}(hz:∀u:Abw,(zeroValue E).run P u = .ok z u){x y:AbG}{a:α}{c:β} 
  (hm:Ab ρ x = .map (some b)) (hy:Ab ρ y=ek a) (h:MapF ek ev D w b G) (ha:D a) (hG:G a=some c) (hk:K (ev c) w):Yk P K ((execOp (Ab ρ) ⟨d, .lookup t x y false,ty,pos,af,gd⟩).run P w):=
 ZC L hD hi ht hz hm hy h ha (by rw[hG];exact hk)
theorem Zu(L:KL P Kt OK)(hD:∀a,D a->OK (ek a))(hi:∀a c,ek a=ek c->a=c)(ht:P.underlying t=some (.map Kt E)){z:Abv}(hz:∀u:Abw,(zeroValue E).run P u = .ok z u){x y:AbG}{a:α} 
  (hm:Ab ρ x = .map (some b)) (hy:Ab ρ y=ek a) (h:MapF ek ev D w b G) (ha:D a) (hG:G a=none) (hk:K z w):Yk P K ((execOp (Ab ρ) ⟨d, .lookup t x y false,ty,pos,af,gd⟩).run P w):=
 ZC L hD hi ht hz hm hy h ha (by rw[hG];exact hk)
theorem Yk.build{parts:Array (Nat × AbG)}{vs:Array (Nat × Abv)}{v:Abv}(hv:(parts.map fun(i,x)=>(i,Ab ρ x))=vs)(hr:∀w:Abw,(Acy t vs).run P w = .ok v w)(hk:K v w):
  Yk P K ((execOp (Ab ρ) ⟨d, .build t parts,ty,pos,af,gd⟩).run P w):=by
 refine AaO (v:=v) (w' :=w) ?_ hk;unfold execOp;simp only[hv,hr,AbF,AbE,AbH]
theorem Y2{i0:Nat}{x0:AbG}{a v:Abv}(h0:Ab ρ x0=a)(hr:∀w:Abw,(Acy t #[(i0,a)]).run P w = .ok v w)(hk:K v w):Yk P K ((execOp (Ab ρ) ⟨d, .build t #[(i0,x0)],ty,pos,af,gd⟩).run P w):=
 Yk.build (by simp[h0]) hr hk
theorem YM{i0 i1:Nat}{x0 x1:AbG}{a b v:Abv}(h0:Ab ρ x0=a)(h1:Ab ρ x1=b)(hr:∀w:Abw,(Acy t #[(i0,a),(i1,b)]).run P w = .ok v w)(hk:K v w):Yk P K ((execOp (Ab ρ) ⟨d, .build t #[(i0,x0),(i1,x1)],ty,pos,af,gd⟩).run P w):=
 Yk.build (by simp[h0,h1]) hr hk
theorem RG.slice{k:Nat}{enc:α->List Abv}{v:Abv}{l:List α}(h:RG k enc w v l):∃ao n c,v = .slice ao n c:=by
 obtain⟨ao,c,rfl⟩:=h.len;exact⟨ao,_,c,rfl⟩
abbrev Abn:=@RG.slice
theorem Zl{fs}(hu:P.underlying t=some (.struct fs)){x:AbG}{v:Abv}(hx:Ab ρ x=v)(hk:K (.iface t v) w):Yk P K ((execOp (Ab ρ) ⟨d, .makeInterface t x,ty,pos,af,gd⟩).run P w):=by
 refine AaO (v:= .iface t v) (w' :=w) ?_ hk;unfold execOp;simp[Instr.makeInterface,hx,run_underlying hu,Acm]
theorem YV{k:Nat}{enc:α->List Abv}{e:AbC}{x:AbG}{a:α}(hx:Ab ρ x = .agg (enc a).toArray)(hl:(enc a).length=k) 
  (hr:∀(cs:Array Abv),cs.size=k->∀w:Abw,(Ab4 t 1 #[(0, .agg cs)]).run P w = .ok (.slice (some ⟨w.heap.size,0,none⟩) 1 1) (w.alloc (.cells cs e)))
  (hk:∀v w',RG k enc w' v [a]->Ext w w' ->K v w'):Yk P K ((execOp (Ab ρ) ⟨d, .buildSlice t 1 #[(0,x)],ty,pos,af,gd⟩).run P w):=by
 have hE:Ext w (w.alloc (.cells (enc a).toArray e)):=(Acr _ _).alloc (AbA _) _;refine AaO (v:= .slice (some ⟨w.heap.size,0,none⟩) 1 1) (w' :=w.alloc (.cells (enc a).toArray e)) ?_ (hk _ _ (Zt hl (heap_alloc_new w _)) hE);unfold execOp;simp only[AbL,AbO,AbS,hx,AbF,hr _ (show(enc a).toArray.size=k by rw[Ab8];exact hl),AbE,AbH]
theorem RG.elem{k:Nat}{enc:α->List Abv}{v:Abv}{l:List α}(h:RG k enc w v l)(dd:α){i:Nat}(hi:i<l.length):(enc (l.getD i dd)).length=k:=by
 refine h.1 _ ?_;rw[AbD,AbJ hi];exact Ade hi
abbrev AaW:=@RG.elem
theorem RG.cut{k:Nat}{enc:α->List Abv}{v:Abv}{l:List α}(h:∀x∈l,(enc x).length=k){a c:Nat}(ha:a<=c)(hc:c<=l.length)(hR:Reads w k v (c-a) (((l.flatMap enc).drop (a*k)).take ((c-a)*k))):RG k enc w v ((l.drop a).take (c-a)):=by
 have hd:∀(l:List α) (n:Nat),(∀x∈l,(enc x).length=k)->(l.flatMap enc).drop (n*k)=(l.drop n).flatMap enc:=by
  intro l n
  induction n generalizing l with
  | zero=>intro _;simp
  | succ n ih=>
   intro h;cases l with
   | nil=>simp
   | cons x r=>
    have hx:=h x (by simp);rw[Aco,List.drop_succ_cons,<-ih r (fun y hy=>h y (by simp[hy])),show(n+1)*k=(enc x).length+n*k by rw[hx,AcQ];omega,List.drop_append,AdG (by omega),AdD,Acg]
 have htk:∀(l:List α) (n:Nat),(∀x∈l,(enc x).length=k)->(l.flatMap enc).take (n*k)=(l.take n).flatMap enc:=by
  intro l n
  induction n generalizing l with
  | zero=>intro _;simp
  | succ n ih=>
   intro h;cases l with
   | nil=>simp
   | cons x r=>
    have hx:=h x (by simp);rw[Aco,List.take_succ_cons,Aco,<-ih r (fun y hy=>h y (by simp[hy])),show(n+1)*k=(enc x).length+n*k by rw[hx,AcQ];omega,List.take_append,Acb (by omega),AdD]
 refine⟨fun x hx=>h x (Aeq (List.mem_of_mem_take hx)),?_⟩;rw[hd l a h,htk _ _ (fun x hx=>h x (Aeq hx))]at hR;rw[show((l.drop a).take (c-a)).length=c-a by rw[AbU,AbV];omega];exact hR
theorem ZO{k:Nat}{enc:α->List Abv}{e:AbC}(ht:P.underlying t=some (.slice e))(he:∀w' :Abw,(sizeOf e).run P w' = .ok k w'){x lo:AbG}{v:Abv}{xs:List α}(hx:Ab ρ x=v)(h:RG k enc w v xs){kd:AcJ}{l:Nat}(hlo:Ab ρ lo = .int kd (l:Int))(hl:l<=xs.length) 
  (hk:∀v',RG k enc w v' (xs.drop l)->v'.ownBlock=v.ownBlock->K v' w):Yk P K ((execOp (Ab ρ) ⟨d, .slice t x (some lo) none none,ty,pos,af,gd⟩).run P w):=by
 obtain⟨ao,c,⟨hrun,hb⟩,hR⟩:=Cm ht he h.2 (some (.int kd l)) none l xs.length hl (AbA _) (.inr ⟨kd,rfl⟩) (.inl ⟨rfl,rfl⟩);have hR' :=RG.cut h.1 hl (AbA _) hR;rw[Acb (by rw[AbV];exact AbA _)]at hR';refine AaO (v:= .slice ao (xs.length-l) c) (w' :=w) ?_ (hk _ hR' hb);unfold execOp;simp only[hx,hlo,AcR,Ado,hrun,AbF,AbH,AbE]
theorem ZP{k:Nat}{enc:α->List Abv}{e:AbC}(ht:P.underlying t=some (.slice e))(he:∀w' :Abw,(sizeOf e).run P w' = .ok k w'){x hi:AbG}{v:Abv}{xs:List α}(hx:Ab ρ x=v)(h:RG k enc w v xs){kd:AcJ}{n:Nat}(hhi:Ab ρ hi = .int kd (n:Int))(hl:n<=xs.length) 
  (hk:∀v',RG k enc w v' (xs.take n)->v'.ownBlock=v.ownBlock->K v' w):Yk P K ((execOp (Ab ρ) ⟨d, .slice t x none (some hi) none,ty,pos,af,gd⟩).run P w):=by
 obtain⟨ao,c,⟨hrun,hb⟩,hR⟩:=Cm ht he h.2 none (some (.int kd n)) 0 n (AbT _) hl (.inl ⟨rfl,rfl⟩) (.inr ⟨kd,rfl⟩);have hR' :=RG.cut h.1 (AbT _) hl hR;rw[Ad0,Nat.sub_zero]at hR';refine AaO (v:= .slice ao (n-0) c) (w' :=w) ?_ (hk _ hR' hb);unfold execOp;simp only[hx,hhi,AcR,Ado,hrun,AbF,AbH,AbE]
theorem X7{f:FuncId}(hp:Plain P f){x0:AbG}{a:Abv}{at_:Array AbC}{J:List PanicEntry->Abw->Prop}(h0:Ab ρ x0=a) 
  (h:Calls P f #[a] w fun e w' =>match e with | .returned v=>K v w' | .panicked ch=>J ch w' | .outgrown=>False):Yp P K J ((execOp (Ab ρ) ⟨d, .call ⟨.value (.func f),#[x0],at_⟩,ty,pos,af,gd⟩).run P w):=
 Yp.call hp [a] (by simp[h0]) h
theorem Y9{f:FuncId}(hp:Plain P f){x0 x1:AbG}{a b:Abv}{at_:Array AbC}{J:List PanicEntry->Abw->Prop}(h0:Ab ρ x0=a)(h1:Ab ρ x1=b) 
  (h:Calls P f #[a,b] w fun e w' =>match e with | .returned v=>K v w' | .panicked ch=>J ch w' | .outgrown=>False):Yp P K J ((execOp (Ab ρ) ⟨d, .call ⟨.value (.func f),#[x0,x1],at_⟩,ty,pos,af,gd⟩).run P w):=
 Yp.call hp [a,b] (by simp[h0,h1]) h
end
section
variable {P : AbQ} {K : Abv -> Abw -> Prop} {ρ : Ah} {w : Abw} {d : Option Tmp} {ty : AbC} {pos : String} {af : Array Acn} {gd : Option (Nat × Bool)}
theorem Z6{f:FuncId}{at_:Array AbC}{x y:AbG}{a b v:Abv}(hx:Ab ρ x=a)(hy:Ab ρ y=b)(hr:(callFunc f #[a,b]).run P w = .ok (.value v) w)(hk:K v w):Yk P K ((execOp (Ab ρ) ⟨d, .call ⟨.value (.func f),#[x,y],at_⟩,ty,pos,af,gd⟩).run P w):=by
 refine AaO (v:=v) (w' :=w) ?_ hk;have hf:Ab ρ (.func f) = .func (.func f) #[] #[]:=rfl;unfold execOp;simp[resolve,hf,Deferred.ofValue,invoke,hx,hy,hr]
end
section
variable {P : AbQ} {w : Abw}
theorem Aat{g:Nat}{l:AgS}{t:AbC}{fr:Nat × Nat}(h:w.heap[g]? =some (.cells (Aby l).toArray t fr))(hl:l.length<=9223372036854775807):RB w (.slice (some ⟨g,0,none⟩) l.length l.length) l:=
 ⟨by simp[Aby],_,_,rfl,AbA _,by unfold maxLen;omega,(fun h=>by cases h),fun a ha j u hu=>by
  cases ha;rw[AcW,Adg];exact Ac h hu⟩
theorem Aak{g n:Nat}{l:AgS}{t:AbC}{fr:Nat × Nat}(h:w.heap[g]? =some (.cells (Aby l).toArray t fr))(hn:l.length=n)(hl:n<=9223372036854775807):RB w (.slice (some ⟨g,0,none⟩) n n) l:=by
 subst hn;exact Aat h hl
end
def Ag(x:B5):Bool:=decide (x.1=AcB 32 0)
theorem Q7{α:Type}{l:List α}{i:Nat}(d:α)(h:i<l.length):l.drop i=l.getD i d :: l.drop (i+1):=by
 rw[Adw h,AbD,AbJ h];rfl
theorem Ek{l:AgS}(h:(Aby l).length=32):l.length=32:=by rwa [AbK]at h
section
variable {P : AbQ} {K : Abv -> Abw -> Prop} {ρ : Ah} {w : Abw} {d : Option Tmp} {ty : AbC} {pos : String} {af : Array Acn} {gd : Option (Nat × Bool)}
variable {α β : Type} {ek : α -> Abv} {ev : β -> Abv} {D : α -> Prop} {b : Nat} {G : α -> Option β}
variable {t Kt E : AbC} {OK : Abv -> Prop}
theorem Zq[DecidableEq α](L:KL P Kt OK)(hD:∀a,D a->OK (ek a))(ht:P.underlying t=some (.map Kt E)){x y z:AbG}{a:α}{c:β} 
  (hm:Ab ρ x = .map (some b)) (hy:Ab ρ y=ek a) (hz:Ab ρ z=ev c) (h:MapF ek ev D w b G) (ha:D a) (hk:∀w',MapF ek ev D w' b (updM G a (some c))->w.grownBy w' (some b)->w'.heap.size=w.heap.size->K undef w'):
  Yk P K ((execOp (Ab ρ) ⟨d, .insert t x y z,ty,pos,af,gd⟩).run P w):=by
 obtain⟨w',hrun,h1,h2,h3⟩:=h.put L hD ht ha c;have hr:(execOp (Ab ρ) ⟨d, .insert t x y z,ty,pos,af,gd⟩).run P w = .ok .skip w' \/(execOp (Ab ρ) ⟨d, .insert t x y z,ty,pos,af,gd⟩).run P w = .ok (.value undef) w' :=by
  unfold execOp;simp only[hm,hy,hz,AbF,hrun,AbE,AbH];simp
 rcases hr with hr | hr <;> rw[hr] <;> exact hk w' h1 h2 h3
theorem Aal{t:AbC}{i0 i1 i2:Nat}{x0 x1 x2:AbG}{a b c v:Abv}(h0:Ab ρ x0=a)(h1:Ab ρ x1=b)(h2:Ab ρ x2=c)(hr:∀w:Abw,(Acy t #[(i0,a),(i1,b),(i2,c)]).run P w = .ok v w)(hk:K v w):Yk P K ((execOp (Ab ρ) ⟨d, .build t #[(i0,x0),(i1,x1),(i2,x2)],ty,pos,af,gd⟩).run P w):=
 Yk.build (by simp[h0,h1,h2]) hr hk
end
theorem Ml:KL Abx 5 (Aev (.int .u8)):=ZB (by kernel_rfl)
theorem Mm:∀n:UInt8,True->Aev (.int .u8) (B8 n):=fun n _=>by first | exact⟨_,rfl⟩ | simp[Aev]
theorem WA{a b:UInt8}(h:B8 a=B8 b):a=b:=by
 injection h with _ h
 exact UInt8.toNat_inj.1 (Int.ofNat.inj h)
def nE(l:List AF)(i:Nat):Bool:=((!Au (l.getD i dNmd).name)||Ag (l.getD i dNmd).id)||(decide (0<i)&&(!Ab7 (l.getD (i-1) dNmd).name (l.getD i dNmd).name))
open Classical in
noncomputable def BT(l:List AF):Bool:=decide ((∀j,j<l.length->nE l j=false)/\l.length<=64)
theorem Hg{l:List AF}{i:Nat}(hi:l.length<=i)(h:∀j,j<i->nE l j=false):BT l=decide (l.length<=64):=by
 classical
 unfold BT;by_cases h2:l.length<=64
 ·rw[decide_eq_true h2,decide_eq_true ⟨fun j hj=>h j (by omega),h2⟩]
 ·rw[decide_eq_false h2,decide_eq_false (fun k=>h2 k.2)]
theorem Pp{l:List AF}{i:Nat}(hi:i<l.length)(h:nE l i=true):BT l=false:=by
 classical
 exact decide_eq_false (fun k=>by have:=k.1 i hi;rw[h]at this;cases this)
theorem OF{p:Nat->Bool}{i:Nat}(h:∀j,j<i->p j=false)(h1:p i=false):∀j,j<i+1->p j=false:=fun j hj=>by
 by_cases e:j<i
 ·exact h j e
 ·obtain rfl:j=i:=by omega
  exact h1
def DM(k:UInt8):Bool:=(decide (k.toNat=1)||decide (k.toNat=2))||decide (k.toNat=3)
def Gy(l:List A7)(i:Nat):Bool:=((!DM (l.getD i At).kind)||(!Ci (l.getD i At).note))||decide (32<(l.getD i At).name.length)
noncomputable def Ic(r:As):Bool:=((!BT r.branches)||(!BT r.tags))||decide (64<r.log.length)
noncomputable def GZ(r:As):Bool:=(decide (r.head≠ [])&&((!Au r.head)||(!Ag r.at_)))||(decide (r.head= [])&&Ag r.at_)
open Classical in
noncomputable def AE(r:As):Bool:=(!Ic r)&&((!GZ r)&&decide (∀j,j<r.log.length->Gy r.log j=false))
theorem Tc{r:As}(h:Ic r=true):AE r=false:=by unfold AE;rw[h];rfl
theorem Td{r:As}(h1:Ic r=false)(h:GZ r=true):AE r=false:=by unfold AE;rw[h1,h];rfl
theorem Pq{r:As}{i:Nat}(h1:Ic r=false)(h2:GZ r=false)(hi:i<r.log.length)(h:Gy r.log i=true):AE r=false:=by
 classical
 unfold AE;rw[h1,h2,decide_eq_false (fun k=>by have:=k i hi;rw[h]at this;cases this)];rfl
theorem FI{r:As}{i:Nat}(h1:Ic r=false)(h2:GZ r=false)(hi:r.log.length<=i)(h:∀j,j<i->Gy r.log j=false):AE r=true:=by
 classical
 unfold AE;rw[h1,h2,decide_eq_true (fun j hj=>h j (by omega))];rfl
structure RefsAt (w : Abw) (x : Ae) : Prop where
 branches:RG 33 nmdC w x.2.branches x.1.branches
 tags:RG 33 nmdC w x.2.tags x.1.tags
 log:RG 67 entC w x.2.log x.1.log
theorem RefsAt.keep{w w' :Abw}{x:Ae}(h:RefsAt w x)(k:Ext w w'):RefsAt w' x:=⟨h.branches.keep k,h.tags.keep k,h.log.keep k⟩
structure El (r : As) : Prop where
 branches:r.branches.length<9223372036854775807
 tags:r.tags.length<9223372036854775807
 log:r.log.length<9223372036854775807
 bn:∀u∈r.branches,u.name.length<=9223372036854775807
 tn:∀u∈r.tags,u.name.length<=9223372036854775807
 head:r.head.length<=9223372036854775807
theorem Q9:Tryz.prog.eqGuardType Tryz.prog.depth 33=false:=by kernel_rfl
theorem EB:Tryz.prog.underlying 31=some (.slice 94):=by kernel_rfl
theorem J1:∀w' :Abw,(sizeOf 94).run Abx w' = .ok 33 w' :=fun _=>by kernel_rfl
theorem Lf:∃fs,Tryz.prog.underlying 94=some (.struct fs):=Dh (by kernel_rfl)
theorem J2:(Tryz.prog.info? 94).map (·.size)=some 33:=by kernel_rfl
theorem Ra{d:Option Tmp}{ty:AbC}{pos:String}{af:Array Acn}{gd:Option (Nat × Bool)}(σ:AbG->Abv)(w:Abw):(execOp σ ⟨d, .alloc 94,ty,pos,af,gd⟩).run Abx w = .ok (.value (PQ w.heap.size 0)) (w.alloc (.cells (nmdC (⟨[],zid⟩:AF)).toArray 94)):=by kernel_rfl
theorem Rb:EA Abx 94 nmdC:=⟨⟨_,(Lf).choose_spec⟩,fun x=>AM (BC x) J2⟩
theorem Gz:AG Abx 94 0 0:=fun b o w=>by simp[go_sem]
theorem Lg:Plain Abx 84:=fun _ _=>by kernel_rfl
theorem N0:AG Abx 94 1 1:=fun b o w=>by simp[go_sem]
theorem Id:Plain Abx 85:=fun _ _=>by kernel_rfl
theorem N1:AG Abx 36 0 0:=fun b o w=>by simp[go_sem]
theorem Lh:Plain Abx 83:=fun _ _=>by kernel_rfl
theorem N2:AG Abx 36 1 1:=fun b o w=>by simp[go_sem]
theorem IV:AG Abx 36 4 35:=fun b o w=>by simp[go_sem]
theorem Ff:Tryz.prog.underlying 34=some (.slice 97):=by kernel_rfl
theorem GA:AG Abx 36 2 2:=fun b o w=>by simp[go_sem]
theorem IW:AG Abx 36 3 3:=fun b o w=>by simp[go_sem]
theorem Pr:∀w' :Abw,(sizeOf 97).run Abx w' = .ok 67 w' :=fun _=>by kernel_rfl
theorem Li:∃fs,Tryz.prog.underlying 97=some (.struct fs):=Dh (by kernel_rfl)
theorem J3:(Tryz.prog.info? 97).map (·.size)=some 67:=by kernel_rfl
theorem Rc{d:Option Tmp}{ty:AbC}{pos:String}{af:Array Acn}{gd:Option (Nat × Bool)}(σ:AbG->Abv)(w:Abw):(execOp σ ⟨d, .alloc 97,ty,pos,af,gd⟩).run Abx w = .ok (.value (PQ w.heap.size 0)) (w.alloc (.cells (entC (⟨0,[],zid,zid,[]⟩:A7)).toArray 97)):=by kernel_rfl
theorem Re:EA Abx 97 entC:=⟨⟨_,(Li).choose_spec⟩,fun x=>AM (CU x) J3⟩
theorem IX:AG Abx 97 0 0:=fun b o w=>by simp[go_sem]
theorem N3:AG Abx 77 0 0:=fun b o w=>by simp[go_sem]
theorem Rf:Plain Abx 86:=fun _ _=>by kernel_rfl
theorem N4:AG Abx 97 1 66:=fun b o w=>by simp[go_sem]
theorem Rg:Plain Abx 35:=fun _ _=>by kernel_rfl
theorem N5:AG Abx 77 1 1:=fun b o w=>by simp[go_sem]
theorem B0(w:Abw)(u:B5):
  Calls Abx 85 #[AB u.1] w fun e w' =>e = .returned (.bool (Ag u))/\Ext w w' :=by
 refine gG (args:= [AB u.1]) Tryz.func85 rfl 6 rfl rfl ?_;have hE:=AaI w;refine gS (AaY (vr (AB u.1) rfl) fun b c h a f i=> ?_);have hE:=hE.trans f;have g:=a;clear a;have j:b<c.heap.size:=by omega
 refine gS (Yx rfl g U7 rfl (by exact Ar u.2) (gS (Aa4 (v:=AB (AcB 32 0)) (by kernel_rfl) (gS (Zy (l1:=u.1) (l2:=(AcB 32 0)) U7 u5 Ph Q9 rfl rfl (u.2) (Ach) (AC rfl (vr (.bool (decide (u.1=(AcB 32 0)))) rfl) ?_))))));exact⟨rfl,hE⟩
theorem Lj(w:Abw)(k:UInt8):
  Calls Abx 86 #[B8 k] w fun e w' =>e = .returned (.bool (DM k))/\Ext w w' :=by
 refine FV (args:= [B8 (k)]) Tryz.func86 rfl 13 rfl rfl ?_;have hE:=AaI w;refine gS (X0 (a:=((k).toNat:Nat)) (b:=(1:Nat)) rfl rfl (AH _ _ _ _) (gO fun _=>Af (B8 (k)) rfl rfl (gF rfl) (fun hG3=>AaP rfl ⟨rfl,rfl⟩) (Av (gO fun _=>Af (.bool (decide (((k).toNat:Nat)=(2)))) rfl rfl (gF rfl) (fun hG4=>X0 (a:=(((k).toNat:Nat):Int)) (b:=((2:Nat):Int)) (Ai rfl hG4) rfl (AH _ .u8 ((k).toNat) (2)) ⟨rfl,rfl⟩) (Av (gS (Yh rfl rfl (fun hA=>(Ai rfl (BP hA))) fun bb5 hbb6=>(gO fun _=>Af (B8 (k)) rfl rfl (gF rfl) (fun hG7=>AaP rfl ⟨rfl,rfl⟩) (Av (gO fun _=>Af (.bool (decide (((k).toNat:Nat)=(3)))) rfl rfl (gF rfl) (fun hG8=>X0 (a:=(((k).toNat:Nat):Int)) (b:=((3:Nat):Int)) (Ai rfl hG8) rfl (AH _ .u8 ((k).toNat) (3)) ⟨rfl,rfl⟩) (Av (gS (Yh rfl rfl (fun hA=>(Ai rfl (BP hA))) fun bb9 hbb10=>(AC rfl (vr (.bool (bb9)) rfl) ?_))))))))))))));subst hbb6 hbb10;exact⟨rfl,hE⟩
theorem Lk(w:Abw)(v:Abv)(l:List AF)(hr:RG 33 nmdC w v l)(hll:l.length<9223372036854775807)(hln:∀u∈l,u.name.length<=9223372036854775807):
  Calls Abx 83 #[v] w fun e w' =>e = .returned (.bool (BT l))/\Ext w w' :=by
 refine gG (args:= [v]) Tryz.func83 rfl 40 rfl rfl ?_;have hE:=AaI w;refine gS (Yb EB (Ya hr rfl) (gL (fun(ρ:Ah) (wz:Abw)=>∃i:Nat,ρ 0=(v:Abv)/\ρ 5=(v:Abv)/\ρ 6=(NI l.length:Abv)/\ρ 7=(NI i:Abv)/\RG 33 nmdC wz v l/\Ext w wz/\(i<=l.length)/\(∀j,j<i->nE l j=false)/\True) (fun ρ _=>l.length-(intOf (ρ 7)).toNat) ⟨0,rfl,rfl,rfl,rfl,hr,hE,AbT _,fun j hj=>absurd hj (AcN _),trivial⟩ ?_));clear hr hE;rintro af w5 ⟨i,p,T5,r,f,hr,hE,hi,hn,-⟩;have q7:=f;refine gS (X0 (a:=(i:Nat)) (b:=(l.length:Nat)) f r (Bh _ _ _ _) ?_);refine cD rfl (fun z=> ?_) fun z=> ?_
 ·have hlt:i<l.length:=z;have hnm:=hln _ (CM dNmd hlt);have bd:(nmdC (l.getD (i) dNmd)).length=33:=(AaW hr dNmd (by omega));refine gS (Yn EB J1 (by decide) dNmd (Ya hr T5) f (by omega) fun be aa=>(gS (X6 (Ys aa rfl) (Lf).choose_spec rfl (by rw[BC];exact J2) (gS (AaQ Ra fun c ah bf ab ac bg=> ?_)))));have o:=AaI w5;have bh:=hE;have ai:=hE.size;have hE:=hE.trans ac;have o:=o.trans ac;have g:=ab;clear ab;have bi:c<ah.heap.size:=by omega
  refine gS (Yd Rb (vr (PQ c 0) rfl) (vr (.agg (nmdC (l.getD (i) dNmd)).toArray) rfl) g (DF) fun aj ad ae bj=> ?_);have hE:=Ad hE ae (Abz ai (by omega));have o:=Ad o ae (Abz (AbA _) (by omega));clear g;have g:aj.heap[c]? =some (.cells (nmdC (l.getD (i) dNmd)).toArray 94 (0,0)):=ad;clear ad;have bk:=bl g;clear aa;refine gR ?_;refine EX [Is (PQ c 0),Is (St (((l.getD (i) dNmd)).name)),Is (.bool (Au (((l.getD (i) dNmd)).name))),Is (.bool (!(Au (((l.getD (i) dNmd)).name)))),Is (.bool (!(Au (((l.getD (i) dNmd)).name)))),Is (cond (!(!(Au (((l.getD (i) dNmd)).name)))) (PQ c 1) undef),Is (cond (!(!(Au (((l.getD (i) dNmd)).name)))) (AB (((l.getD (i) dNmd)).id.1)) undef),Is (cond (!(!(Au (((l.getD (i) dNmd)).name)))) (.bool (Ag (((l.getD (i) dNmd)).id))) undef),Is (.bool ((!(Au (((l.getD (i) dNmd)).name)))||(Ag (((l.getD (i) dNmd)).id)))),Is (.bool ((!(Au (((l.getD (i) dNmd)).name)))||(Ag (((l.getD (i) dNmd)).id)))),Is (cond (!((!(Au (((l.getD (i) dNmd)).name)))||(Ag (((l.getD (i) dNmd)).id)))) (NI i) undef),Is (cond (!((!(Au (((l.getD (i) dNmd)).name)))||(Ag (((l.getD (i) dNmd)).id)))) (.bool (decide ((0)<(i)))) undef),Is (cond (!((!(Au (((l.getD (i) dNmd)).name)))||(Ag (((l.getD (i) dNmd)).id)))) (.bool (decide ((0)<(i)))) undef),Is (cond ((!((!(Au (((l.getD (i) dNmd)).name)))||(Ag (((l.getD (i) dNmd)).id))))&&(decide ((0)<(i)))) (v) undef),Is (cond ((!((!(Au (((l.getD (i) dNmd)).name)))||(Ag (((l.getD (i) dNmd)).id))))&&(decide ((0)<(i)))) (NI i) undef),Is (cond ((!((!(Au (((l.getD (i) dNmd)).name)))||(Ag (((l.getD (i) dNmd)).id))))&&(decide ((0)<(i)))) (NI ((i)-(1))) undef),fun x w' =>((!((!(Au (((l.getD (i) dNmd)).name)))||(Ag (((l.getD (i) dNmd)).id))))&&(decide ((0)<(i))))=true->(fun x w' =>PR (nmdC (l.getD ((i)-(1)) dNmd)) x w') x w',fun x w' =>((!((!(Au (((l.getD (i) dNmd)).name)))||(Ag (((l.getD (i) dNmd)).id))))&&(decide ((0)<(i))))=true->(PCell (St ((l.getD ((i)-(1)) dNmd).name))) x w',Is (cond ((!((!(Au (((l.getD (i) dNmd)).name)))||(Ag (((l.getD (i) dNmd)).id))))&&(decide ((0)<(i)))) (St ((l.getD ((i)-(1)) dNmd).name)) undef),Is (cond ((!((!(Au (((l.getD (i) dNmd)).name)))||(Ag (((l.getD (i) dNmd)).id))))&&(decide ((0)<(i)))) (PQ c 0) undef),Is (cond ((!((!(Au (((l.getD (i) dNmd)).name)))||(Ag (((l.getD (i) dNmd)).id))))&&(decide ((0)<(i)))) (St (((l.getD (i) dNmd)).name)) undef),Is (cond ((!((!(Au (((l.getD (i) dNmd)).name)))||(Ag (((l.getD (i) dNmd)).id))))&&(decide ((0)<(i)))) (.bool (!(Ab7 ((l.getD ((i)-(1)) dNmd).name) (((l.getD (i) dNmd)).name)))) undef),Is (cond (!((!(Au (((l.getD (i) dNmd)).name)))||(Ag (((l.getD (i) dNmd)).id)))) (.bool ((decide ((0)<(i)))&&(!(Ab7 ((l.getD ((i)-(1)) dNmd).name) (((l.getD (i) dNmd)).name))))) undef),Is (.bool (((!(Au (((l.getD (i) dNmd)).name)))||(Ag (((l.getD (i) dNmd)).id)))||((decide ((0)<(i)))&&(!(Ab7 ((l.getD ((i)-(1)) dNmd).name) (((l.getD (i) dNmd)).name))))))] (by kernel_rfl) [12,13,14,15,16,17,18,19,20,21,22,23,24,25,26,27,28,29,30,31,32,33,34,35] (by kernel_rfl) (by kernel_rfl) (XK (S4 ⟨(Stab.may ((fun _ _ _ h k=>Aa7 h k))),(Stab.may (Zk _)),(XL trivial)⟩)) ?ak ?hQ1004
  case ak=>
   refine⟨?_,?_,?_,?_,?_,?_,?_,?_,?_,?_,?_,?_,?_,?_,?_,?_,?_,?_,?_,?_,?_,?_,?_,?_,trivial⟩
   ·refine AR rfl fun σ w1 hC h=> ?_;have q:σ 4=PQ c 0:=(AL (h 4 (by decide))).trans rfl;exact AaH Gz q ⟨AaI _,rfl⟩
   ·refine AR rfl fun σ w1 hC h=> ?_;have al:=AL (h 12 (by decide));exact XZ Eu rfl al (Ac (eb hC g) (EJ (l.getD (i) dNmd))) ⟨AaI _,rfl⟩
   ·refine AR rfl fun σ w1 hC h=> ?_;have am:=AL (h 13 (by decide));refine X4 Lg am ((Jp _ (((l.getD (i) dNmd)).name) (by have:=hnm;omega)).mono ?_);rintro e w2 ⟨rfl,hx⟩;exact⟨_,rfl,hx,rfl⟩
   ·refine AR rfl fun σ w1 hC h=> ?_;have an:=AL (h 14 (by decide));exact Yi an ⟨AaI _,rfl⟩
   ·refine AR rfl fun σ w1 hC h=> ?_;have ao:=AL (h 15 (by decide));exact AaP ao ⟨AaI _,rfl⟩
   ·refine A0 4 false 16 (G:= !(!(Au (((l.getD (i) dNmd)).name)))) rfl rfl (fun x _ (h:x = .bool (!(Au (((l.getD (i) dNmd)).name))))=>gF h) (fun hu_ _=>Br hu_) fun hG σ w1 hC h=> ?_;have q:σ 4=PQ c 0:=(AL (h 4 (by decide))).trans rfl;exact AaH N0 q ⟨AaI _,Bq hG⟩
   ·refine A0 4 false 16 (G:= !(!(Au (((l.getD (i) dNmd)).name)))) rfl rfl (fun x _ (h:x = .bool (!(Au (((l.getD (i) dNmd)).name))))=>gF h) (fun hu_ _=>Br hu_) fun hG σ w1 hC h=> ?_;have ap:=AL (h 17 (by decide));exact X6 (AaV (eb hC g) (GR (l.getD (i) dNmd)) (GS (l.getD (i) dNmd)) (Ai ap hG)) U7 rfl (Ar ((l.getD (i) dNmd)).id.2) ⟨AaI _,Bq hG⟩
   ·refine A0 4 false 16 (G:= !(!(Au (((l.getD (i) dNmd)).name)))) rfl rfl (fun x _ (h:x = .bool (!(Au (((l.getD (i) dNmd)).name))))=>gF h) (fun hu_ _=>Br hu_) fun hG σ w1 hC h=> ?_;have aq:=AL (h 18 (by decide));refine X4 Id (Ai aq hG) ((B0 _ (((l.getD (i) dNmd)).id)).mono ?_);rintro e w2 ⟨rfl,hx⟩;exact⟨_,rfl,hx,Bq hG⟩
   ·refine AR rfl fun σ w1 hC h=> ?_;have ar:=AL (h 16 (by decide));have au:=AL (h 19 (by decide));exact YH ar (vr (.bool (true)) rfl) (fun hA=>(Ai au (BP hA))) ⟨AaI _,rfl⟩
   ·refine AR rfl fun σ w1 hC h=> ?_;have av:=AL (h 20 (by decide));exact AaP av ⟨AaI _,rfl⟩
   ·refine A0 9 false 21 (G:= !((!(Au (((l.getD (i) dNmd)).name)))||(Ag (((l.getD (i) dNmd)).id)))) rfl rfl (fun x _ (h:x = .bool ((!(Au (((l.getD (i) dNmd)).name)))||(Ag (((l.getD (i) dNmd)).id))))=>gF h) (fun hu_ _=>Br hu_) fun hG σ w1 hC h=> ?_;have s:=(AL (h 3 (by decide))).trans f;exact AaP s ⟨AaI _,Bq hG⟩
   ·refine A0 9 false 21 (G:= !((!(Au (((l.getD (i) dNmd)).name)))||(Ag (((l.getD (i) dNmd)).id)))) rfl rfl (fun x _ (h:x = .bool ((!(Au (((l.getD (i) dNmd)).name)))||(Ag (((l.getD (i) dNmd)).id))))=>gF h) (fun hu_ _=>Br hu_) fun hG σ w1 hC h=> ?_;have aw:=AL (h 22 (by decide));exact X0 (a:=((i:Nat):Int)) (b:=((0:Nat):Int)) (Ai aw hG) (vr (NI 0) rfl) (DL _ .i64 (i) (0)) ⟨AaI _,Bq hG⟩
   ·refine A0 9 false 21 (G:= !((!(Au (((l.getD (i) dNmd)).name)))||(Ag (((l.getD (i) dNmd)).id)))) rfl rfl (fun x _ (h:x = .bool ((!(Au (((l.getD (i) dNmd)).name)))||(Ag (((l.getD (i) dNmd)).id))))=>gF h) (fun hu_ _=>Br hu_) fun hG σ w1 hC h=> ?_;have ax:=AL (h 23 (by decide));exact AaP (Ai ax hG) ⟨AaI _,Bq hG⟩
   ·refine A0 12 true 24 (G:=(!((!(Au (((l.getD (i) dNmd)).name)))||(Ag (((l.getD (i) dNmd)).id))))&&(decide ((0)<(i)))) rfl rfl (fun x _ (h:x=cond (!((!(Au (((l.getD (i) dNmd)).name)))||(Ag (((l.getD (i) dNmd)).id)))) (.bool (decide ((0)<(i)))) undef)=>FA h) (fun hu_ _=>Br hu_) fun hG σ w1 hC h=> ?_;have e0:=(AL (h 0 (by decide))).trans p;exact AaP e0 ⟨AaI _,Bq hG⟩
   ·refine A0 12 true 24 (G:=(!((!(Au (((l.getD (i) dNmd)).name)))||(Ag (((l.getD (i) dNmd)).id))))&&(decide ((0)<(i)))) rfl rfl (fun x _ (h:x=cond (!((!(Au (((l.getD (i) dNmd)).name)))||(Ag (((l.getD (i) dNmd)).id)))) (.bool (decide ((0)<(i)))) undef)=>FA h) (fun hu_ _=>Br hu_) fun hG σ w1 hC h=> ?_;have s:=(AL (h 3 (by decide))).trans f;exact AaP s ⟨AaI _,Bq hG⟩
   ·refine A0 12 true 24 (G:=(!((!(Au (((l.getD (i) dNmd)).name)))||(Ag (((l.getD (i) dNmd)).id))))&&(decide ((0)<(i)))) rfl rfl (fun x _ (h:x=cond (!((!(Au (((l.getD (i) dNmd)).name)))||(Ag (((l.getD (i) dNmd)).id)))) (.bool (decide ((0)<(i)))) undef)=>FA h) (fun hu_ _=>Br hu_) fun hG σ w1 hC h=> ?_;have az:=AL (h 26 (by decide));exact X9 (xv:=NI i) (yv:=NI 1) (Ai az hG) (vr (NI 1) rfl) rfl (EY _ (i) (1) (by first | omega | (simp only[gA,gB,gC,gD,gE]at hG;omega)) (by first | omega | (simp only[gA,gB,gC,gD,gE]at hG;omega))) ⟨AaI _,Bq hG⟩
   ·refine A0 12 true 24 (G:=(!((!(Au (((l.getD (i) dNmd)).name)))||(Ag (((l.getD (i) dNmd)).id))))&&(decide ((0)<(i)))) rfl rfl (fun x _ (h:x=cond (!((!(Au (((l.getD (i) dNmd)).name)))||(Ag (((l.getD (i) dNmd)).id)))) (.bool (decide ((0)<(i)))) undef)=>FA h) (fun hu_ _=>Xx hu_) fun hG σ w1 hC h=> ?_;have a0:=AL (h 25 (by decide));have a1:=AL (h 27 (by decide));exact Yn EB J1 (by decide) dNmd (Ya (hr.keep (o.trans hC)) (Ai a0 hG)) (Ai a1 hG) (by first | omega | (simp only[gA,gB,gC,gD,gE]at hG;omega)) fun v h=>⟨AaI _,fun _=>h⟩
   ·refine A0 12 true 24 (G:=(!((!(Au (((l.getD (i) dNmd)).name)))||(Ag (((l.getD (i) dNmd)).id))))&&(decide ((0)<(i)))) rfl rfl (fun x _ (h:x=cond (!((!(Au (((l.getD (i) dNmd)).name)))||(Ag (((l.getD (i) dNmd)).id)))) (.bool (decide ((0)<(i)))) undef)=>FA h) (fun hu_ _=>Xx hu_) fun hG σ w1 hC h=> ?_;have a2:(fun x w' =>((!((!(Au (((l.getD (i) dNmd)).name)))||(Ag (((l.getD (i) dNmd)).id))))&&(decide ((0)<(i))))=true->(fun x w' =>PR (nmdC (l.getD ((i)-(1)) dNmd)) x w') x w') (σ 28) w1:=h 28 (by decide);exact Y5 (n:=1) Gz (a2 hG) fun v h=>⟨AaI _,fun _=>Zh (by rw[My]at h;exact h)⟩
   ·refine A0 12 true 24 (G:=(!((!(Au (((l.getD (i) dNmd)).name)))||(Ag (((l.getD (i) dNmd)).id))))&&(decide ((0)<(i)))) rfl rfl (fun x _ (h:x=cond (!((!(Au (((l.getD (i) dNmd)).name)))||(Ag (((l.getD (i) dNmd)).id)))) (.bool (decide ((0)<(i)))) undef)=>FA h) (fun hu_ _=>Br hu_) fun hG σ w1 hC h=> ?_;have a3:(fun x w' =>((!((!(Au (((l.getD (i) dNmd)).name)))||(Ag (((l.getD (i) dNmd)).id))))&&(decide ((0)<(i))))=true->(PCell (St ((l.getD ((i)-(1)) dNmd).name))) x w') (σ 29) w1:=h 29 (by decide);exact YE Eu rfl (a3 hG) ⟨AaI _,Bq hG⟩
   ·refine A0 12 true 24 (G:=(!((!(Au (((l.getD (i) dNmd)).name)))||(Ag (((l.getD (i) dNmd)).id))))&&(decide ((0)<(i)))) rfl rfl (fun x _ (h:x=cond (!((!(Au (((l.getD (i) dNmd)).name)))||(Ag (((l.getD (i) dNmd)).id)))) (.bool (decide ((0)<(i)))) undef)=>FA h) (fun hu_ _=>Br hu_) fun hG σ w1 hC h=> ?_;have q:σ 4=PQ c 0:=(AL (h 4 (by decide))).trans rfl;exact AaH Gz q ⟨AaI _,Bq hG⟩
   ·refine A0 12 true 24 (G:=(!((!(Au (((l.getD (i) dNmd)).name)))||(Ag (((l.getD (i) dNmd)).id))))&&(decide ((0)<(i)))) rfl rfl (fun x _ (h:x=cond (!((!(Au (((l.getD (i) dNmd)).name)))||(Ag (((l.getD (i) dNmd)).id)))) (.bool (decide ((0)<(i)))) undef)=>FA h) (fun hu_ _=>Br hu_) fun hG σ w1 hC h=> ?_;have a4:=AL (h 31 (by decide));exact XZ Eu rfl (Ai a4 hG) (Ac (eb hC g) (EJ (l.getD (i) dNmd))) ⟨AaI _,Bq hG⟩
   ·refine A0 12 true 24 (G:=(!((!(Au (((l.getD (i) dNmd)).name)))||(Ag (((l.getD (i) dNmd)).id))))&&(decide ((0)<(i)))) rfl rfl (fun x _ (h:x=cond (!((!(Au (((l.getD (i) dNmd)).name)))||(Ag (((l.getD (i) dNmd)).id)))) (.bool (decide ((0)<(i)))) undef)=>FA h) (fun hu_ _=>Br hu_) fun hG σ w1 hC h=> ?_;have a5:=AL (h 30 (by decide));have a6:=AL (h 32 (by decide));exact ZW (l:=(l.getD ((i)-(1)) dNmd).name) (m:=((l.getD (i) dNmd)).name) (.inr rfl) (Ai a5 hG) (Ai a6 hG) (!(Ab7 ((l.getD ((i)-(1)) dNmd).name) (((l.getD (i) dNmd)).name))) rfl ⟨AaI _,Bq hG⟩
   ·refine A0 9 false 21 (G:= !((!(Au (((l.getD (i) dNmd)).name)))||(Ag (((l.getD (i) dNmd)).id)))) rfl rfl (fun x _ (h:x = .bool ((!(Au (((l.getD (i) dNmd)).name)))||(Ag (((l.getD (i) dNmd)).id))))=>gF h) (fun hu_ _=>Br hu_) fun hG σ w1 hC h=> ?_;have a7:=AL (h 24 (by decide));have a8:=AL (h 33 (by decide));exact YC (Ai a7 hG) (fun hA=>(Ai a8 (FH hG hA))) (vr (.bool (false)) rfl) ⟨AaI _,Bq hG⟩
   ·refine AR rfl fun σ w1 hC h=> ?_;have a9:=AL (h 21 (by decide));have ba:=AL (h 34 (by decide));exact YH a9 (vr (.bool (true)) rfl) (fun hA=>(Ai ba (BP hA))) ⟨AaI _,rfl⟩
  intro bb bm t he hf;obtain⟨-,-,-,-,-,-,-,-,-,-,-,-,-,-,-,-,-,-,-,-,-,-,-,k35,-⟩:=hf;obtain⟨p,T3,T4,T5,r,f,-⟩:=he.hold [(0,_),(3,_),(4,PQ c 0),(5,_),(6,_),(7,_)] ⟨p,f,rfl,T5,r,f,trivial⟩ rfl;clear he;have hE:=hE.trans t;have o:=o.trans t;have g:=eb t g;have bc:bb 35 = .bool (((!(Au (((l.getD (i) dNmd)).name)))||(Ag (((l.getD (i) dNmd)).id)))||((decide ((0)<(i)))&&(!(Ab7 ((l.getD ((i)-(1)) dNmd).name) (((l.getD (i) dNmd)).name))))):=k35;clear k35;refine gX ?_;refine cB (((!(Au (((l.getD (i) dNmd)).name)))||(Ag (((l.getD (i) dNmd)).id)))||((decide ((0)<(i)))&&(!(Ab7 ((l.getD ((i)-(1)) dNmd).name) (((l.getD (i) dNmd)).name))))) bc (fun y=> ?_) fun y=> ?_
  ·have hbad:nE l i=true:=y;refine AC rfl (vr (.bool (false)) rfl) ?_;exact⟨by rw[Pp hlt hbad],hE⟩
  have hbad:nE l i=false:=y;refine gS (X9 (xv:=NI i) (yv:=NI 1) f rfl rfl (AI _ _ _ (by omega)) (gK (AcC ⟨i+1,p,T5,r,rfl,(hr.keep o),hE,by omega,OF hn hbad,trivial⟩ ?_)));show l.length-(intOf (NI ((i)+(1)))).toNat<l.length-(intOf (af 7)).toNat;rw[q7];simp only[intOf,Ab2];omega
 refine gS (Yb EB (Ya hr p) (gS (X0 (a:=(l.length:Nat)) (b:=(64:Nat)) rfl rfl (EH _ _ _ _) (AC rfl (vr (.bool (decide ((l.length)<=(64)))) rfl) ?_))));exact⟨by rw[Hg (show l.length<=i by omega) hn],hE⟩
theorem Hh(w:Abw)(x:Ae)(hm:RefsAt w x)(hL:El x.1):
  Calls Abx 34 #[.agg (refsC x).toArray] w fun e w' =>e = .returned (.bool (AE x.1))/\Ext w w' :=by
 have hmt:=hm.branches;have hmg:=hm.tags;have hml:=hm.log;refine FV (args:= [.agg (refsC x).toArray]) Tryz.func34 rfl 72 rfl rfl ?_;have hE:=AaI w;refine gS (AaY (vr (.agg (refsC x).toArray) rfl) fun f w3 au v ak av=> ?_);have hE:=hE.trans ak;have c:=v;clear v;have aw:f<w3.heap.size:=by omega
 refine gS (AaH N1 rfl (gS (XZ EB rfl rfl (Ac c (CI x)) (gS (X4 Lh rfl ((Lk _ _ x.1.branches (hmt.keep hE) hL.branches hL.bn).mono ?_))))));rintro e ax ⟨rfl,y⟩;refine⟨_,rfl,?_⟩;have hE:=hE.trans y;have c:=eb y c;refine gS (Yi rfl (gO fun _=>Af (PQ f 1) rfl rfl (gF rfl) (fun hG14=>AaH N2 rfl ⟨rfl,rfl⟩) (Av (gO fun _=>Af (x.2.tags) rfl rfl (gF rfl) (fun hG15=>XZ EB rfl (Ai rfl hG15) (Ac c (Dd x)) ⟨rfl,rfl⟩) (Av (gO fun _=>Cd (.bool (BT x.1.tags)) rfl rfl (gF rfl) (fun hG16=>X4 Lh (Ai rfl hG16) ((Lk _ _ x.1.tags (hmg.keep hE) hL.tags hL.tn).mono (by rintro e w2 ⟨rfl,hx⟩;exact⟨_,rfl,rfl,hx⟩))) fun ay z=>Av ?_))))));have hE:=hE.trans z;have c:=eb z c;refine gO fun _=>Af (.bool (!(BT x.1.tags))) rfl rfl (gF rfl) (fun hG20=>Yi (Ai rfl hG20) ⟨rfl,rfl⟩) (Av (gS (Yh rfl rfl (fun hA=>(Ai rfl (BP hA))) fun bb21 hbb22=>(gO fun _=>Af (PQ f 35) rfl rfl (gF rfl) (fun hG23=>AaH IV rfl ⟨rfl,rfl⟩) (Av (gO fun _=>Af (x.2.log) rfl rfl (gF rfl) (fun hG24=>XZ Ff rfl (Ai rfl hG24) (Ac c (BZ x)) ⟨rfl,rfl⟩) (Av (gO fun _=>Af (NI ((x.1.log).length)) rfl rfl (gF rfl) (fun hG25=>Yb Ff (Ya (hml.keep hE) (Ai rfl hG25)) ⟨rfl,rfl⟩) (Av (gO fun _=>Af (.bool (decide ((64)<((x.1.log).length)))) rfl rfl (gF rfl) (fun hG26=>X0 (a:=(((x.1.log).length:Nat):Int)) (b:=((64:Nat):Int)) (Ai rfl hG26) rfl (DL _ .i64 ((x.1.log).length) (64)) ⟨rfl,rfl⟩) (Av (gS (Yh rfl rfl (fun hA=>(Ai rfl (BP hA))) fun bb27 hbb28=> ?_)))))))))))));refine cB (bb27) rfl (fun q=> ?_) fun q=> ?_
 ·subst hbb22 hbb28;have h1c:Ic x.1=true:=q;refine AC rfl (vr (.bool (false)) rfl) ?_;exact⟨by rw[Tc h1c],hE⟩
 subst hbb22 hbb28;have h1c:Ic x.1=false:=q;refine gS (AaH GA rfl (gS (XZ Eu rfl rfl (Ac c (Ex x)) (gS (YU (l:=x.1.head) (m:=([]:AgS)) (.inr rfl) rfl rfl (decide ((x.1.head:AgS)≠(([]:AgS):AgS))) rfl (gO fun _=>Af (PQ f 2) rfl rfl (gT rfl) (fun hG32=>AaH GA rfl ⟨rfl,rfl⟩) (Av (gO fun _=>Af (St (x.1.head)) rfl rfl (gT rfl) (fun hG33=>XZ Eu rfl (Ai rfl hG33) (Ac c (Ex x)) ⟨rfl,rfl⟩) (Av (gO fun _=>Cd (.bool (Au x.1.head)) rfl rfl (gT rfl) (fun hG34=>X4 Lg (Ai rfl hG34) ((Jp _ x.1.head hL.head).mono (by rintro e w2 ⟨rfl,hx⟩;exact⟨_,rfl,rfl,hx⟩))) fun az aa=>Av ?_))))))))));have hE:=hE.trans aa;have c:=eb aa c;refine gO fun _=>Af (.bool (!(Au x.1.head))) rfl rfl (gT (vr (.bool (decide ((x.1.head:AgS)≠(([]:AgS):AgS)))) rfl)) (fun hG38=>Yi (Ai (vr (cond ((decide ((x.1.head:AgS)≠(([]:AgS):AgS)))) (.bool (Au x.1.head)) undef) rfl) hG38) ⟨rfl,rfl⟩) (Av (gO fun _=>Af (.bool (!(Au x.1.head))) rfl rfl (gT (vr (.bool (decide ((x.1.head:AgS)≠(([]:AgS):AgS)))) rfl)) (fun hG39=>AaP (Ai (vr (cond ((decide ((x.1.head:AgS)≠(([]:AgS):AgS)))) (.bool (!(Au x.1.head))) undef) rfl) hG39) ⟨rfl,rfl⟩) (Av (gO fun _=>Af (PQ f 3) rfl rfl (EU (vr (cond ((decide ((x.1.head:AgS)≠(([]:AgS):AgS)))) (.bool (!(Au x.1.head))) undef) rfl)) (fun hG40=>AaH IW (vr (PQ f 0) rfl) ⟨rfl,rfl⟩) (Av (gO fun _=>Af (AB x.1.at_.1) rfl rfl (EU (vr (cond ((decide ((x.1.head:AgS)≠(([]:AgS):AgS)))) (.bool (!(Au x.1.head))) undef) rfl)) (fun hG41=>X6 (AaV c (DG x) (D5 x) (Ai (vr (cond ((decide ((x.1.head:AgS)≠(([]:AgS):AgS)))&& !(!(Au x.1.head))) (PQ f 3) undef) rfl) hG41)) U7 rfl (Ar x.1.at_.2) ⟨rfl,rfl⟩) (Av (gO fun _=>Cd (.bool (Ag x.1.at_)) rfl rfl (EU (vr (cond ((decide ((x.1.head:AgS)≠(([]:AgS):AgS)))) (.bool (!(Au x.1.head))) undef) rfl)) (fun hG42=>X4 Id (Ai (vr (cond ((decide ((x.1.head:AgS)≠(([]:AgS):AgS)))&& !(!(Au x.1.head))) (AB x.1.at_.1) undef) rfl) hG42) ((B0 _ x.1.at_).mono (by rintro e w2 ⟨rfl,hx⟩;exact⟨_,rfl,rfl,hx⟩))) fun a0 ab=>Av ?_))))))));have hE:=hE.trans ab;have c:=eb ab c;refine gO fun _=>Af (.bool (!(Ag x.1.at_))) rfl rfl (EU rfl) (fun hG46=>Yi (Ai rfl hG46) ⟨rfl,rfl⟩) (Av (gO fun _=>DQ ((!(Au x.1.head))||(!(Ag x.1.at_))) rfl rfl (gT rfl) (fun hG47=>YH (Ai rfl hG47) rfl (fun hA=>(Ai rfl (FH hG47 (BP hA)))) ⟨rfl,rfl⟩) fun bb48 hbb49=>Av (gS (Yg rfl (fun hA=>(Ai rfl hA)) rfl fun bb50 hbb51=>(gO fun _=>Af (PQ f 2) rfl rfl (gF rfl) (fun hG52=>AaH GA rfl ⟨rfl,rfl⟩) (Av (gO fun _=>Af (St (x.1.head)) rfl rfl (gF rfl) (fun hG53=>XZ Eu rfl (Ai rfl hG53) (Ac c (Ex x)) ⟨rfl,rfl⟩) (Av (gO fun _=>Af (.bool (decide ((x.1.head:AgS)=(([]:AgS):AgS)))) rfl rfl (gF rfl) (fun hG54=>YU (l:=x.1.head) (m:=([]:AgS)) (.inl rfl) (Ai rfl hG54) rfl (decide ((x.1.head:AgS)=(([]:AgS):AgS))) rfl ⟨rfl,rfl⟩) (Av (gO fun _=>Af (.bool (decide ((x.1.head:AgS)=(([]:AgS):AgS)))) rfl rfl (gF rfl) (fun hG55=>AaP (Ai rfl hG55) ⟨rfl,rfl⟩) (Av (gO fun _=>Af (PQ f 3) rfl rfl (FA rfl) (fun hG56=>AaH IW rfl ⟨rfl,rfl⟩) (Av (gO fun _=>Af (AB x.1.at_.1) rfl rfl (FA rfl) (fun hG57=>X6 (AaV c (DG x) (D5 x) (Ai rfl hG57)) U7 rfl (Ar x.1.at_.2) ⟨rfl,rfl⟩) (Av (gO fun _=>Cd (.bool (Ag x.1.at_)) rfl rfl (FA rfl) (fun hG58=>X4 Id (Ai rfl hG58) ((B0 _ x.1.at_).mono (by rintro e w2 ⟨rfl,hx⟩;exact⟨_,rfl,rfl,hx⟩))) fun a1 ac=>Av ?_)))))))))))))))));have hE:=hE.trans ac;have c:=eb ac c;refine gO fun _=>DQ ((decide ((x.1.head:AgS)=(([]:AgS):AgS)))&&(Ag x.1.at_)) rfl rfl (gF rfl) (fun hG62=>YC (Ai rfl hG62) (fun hA=>(Ai rfl (FH hG62 hA))) rfl ⟨rfl,rfl⟩) fun bb63 hbb64=>Av (gS (Yh rfl rfl (fun hA=>(Ai rfl (BP hA))) fun bb65 hbb66=> ?_));refine cB (bb65) rfl (fun r=> ?_) fun r=> ?_
 ·subst hbb49 hbb51 hbb64 hbb66;have h2c:GZ x.1=true:=r;refine AC rfl (vr (.bool (false)) rfl) ?_;exact⟨by rw[Td h1c h2c],hE⟩
 subst hbb49 hbb51 hbb64 hbb66;have h2c:GZ x.1=false:=r;refine gS (AaH IV rfl (gS (XZ Ff rfl rfl (Ac c (BZ x)) (gS (Yb Ff (Ya (hml.keep hE) rfl) (gL (fun(ρ:Ah) (wz:Abw)=>∃i:Nat,ρ 0=(.agg (refsC x).toArray:Abv)/\ρ 1=(PQ f 0:Abv)/\ρ 47=(x.2.log:Abv)/\ρ 48=(NI ((x.1.log).length):Abv)/\ρ 49=(NI i:Abv)/\Ext w wz/\wz.heap[f]? =some (.cells (refsC x).toArray 36 (0,0))/\(i<=x.1.log.length)/\(∀j,j<i->Gy x.1.log j=false)/\True) (fun ρ _=>x.1.log.length-(intOf (ρ 49)).toNat) ⟨0,rfl,rfl,rfl,rfl,rfl,hE,c,AbT _,fun j hj=>absurd hj (AcN _),trivial⟩ ?_))))));clear hE c;rintro al am ⟨i,T0,T1,ad,ae,n,hE,c,hi,hn,-⟩;have q49:=n;refine gS (X0 (a:=(i:Nat)) (b:=((x.1.log).length:Nat)) n ae (Bh _ _ _ _) ?_);refine cD rfl (fun af=> ?_) fun af=> ?_
 ·have hlt:i<x.1.log.length:=af;have a2:(entC ((x.1.log).getD (i) At)).length=67:=(AaW (hml.keep hE) At (by omega));refine gS (Yn Ff Pr (by decide) At (Ya (hml.keep hE) ad) n (by omega) fun a3 ag=>(gS (X6 (Ys ag rfl) (Li).choose_spec rfl (by rw[CU];exact J3) (gS (AaQ Rc fun k ao ap ah s a4=> ?_)))));have h:=AaI am;have a5:=hE;have aq:=hE.size;have a6:=AN (bl c) ap;have hE:=hE.trans s;have c:=eb s c;have h:=h.trans s;have g:=ah;clear ah;have a7:k<ao.heap.size:=by omega
  refine gS (Yd Re (vr (PQ k 0) rfl) (vr (.agg (entC ((x.1.log).getD (i) At)).toArray) rfl) g (FK) fun ar ai t a8=> ?_);have hE:=Ad hE t (Abz aq (by omega));have c:=kb t c (by omega);have h:=Ad h t (Abz (AbA _) (by omega));clear g;have g:ar.heap[k]? =some (.cells (entC ((x.1.log).getD (i) At)).toArray 97 (0,0)):=ai;clear ai;have a9:=bl g;clear ag;refine gS (AaH IX rfl (gS (AaH N3 rfl (gS (XZ u5 rfl rfl (Ac g (QK ((x.1.log).getD (i) At))) (gS (X4 Rf rfl ((Lj _ ((((x.1.log).getD (i) At)).kind)).mono ?_))))))));rintro e ba ⟨rfl,o⟩;refine⟨_,rfl,?_⟩;have hE:=hE.trans o;have c:=eb o c;have h:=h.trans o;have g:=eb o g;refine gS (Yi rfl (gO fun _=>Af (PQ k 66) rfl rfl (gF rfl) (fun hG99=>AaH N4 rfl ⟨rfl,rfl⟩) (Av (gO fun _=>Af (St ((((x.1.log).getD (i) At)).note)) rfl rfl (gF rfl) (fun hG100=>XZ Eu rfl (Ai rfl hG100) (Ac g (JQ ((x.1.log).getD (i) At))) ⟨rfl,rfl⟩) (Av (gO fun _=>Cd (.bool (Ci ((((x.1.log).getD (i) At)).note))) rfl rfl (gF rfl) (fun hG101=>X4 Rg (Ai rfl hG101) ((MI _ ((((x.1.log).getD (i) At)).note)).mono (by rintro e w2 ⟨rfl,hx⟩;exact⟨_,rfl,rfl,hx⟩))) fun bb p=>Av ?_))))));have hE:=hE.trans p;have c:=eb p c;have h:=h.trans p;have g:=eb p g;refine gO fun _=>Af (.bool (!(Ci ((((x.1.log).getD (i) At)).note)))) rfl rfl (gF rfl) (fun hG105=>Yi (Ai rfl hG105) ⟨rfl,rfl⟩) (Av (gS (Yh rfl rfl (fun hA=>(Ai rfl (BP hA))) fun bb106 hbb107=>(gO fun _=>Af (PQ k 0) rfl rfl (gF rfl) (fun hG108=>AaH IX rfl ⟨rfl,rfl⟩) (Av (gO fun _=>Af (PQ k 1) rfl rfl (gF rfl) (fun hG109=>AaH N5 (Ai rfl hG109) ⟨rfl,rfl⟩) (Av (gO fun _=>Af (St ((((x.1.log).getD (i) At)).name)) rfl rfl (gF rfl) (fun hG110=>XZ Eu rfl (Ai rfl hG110) (Ac g (QL ((x.1.log).getD (i) At))) ⟨rfl,rfl⟩) (Av (gO fun _=>Af (NI (((((x.1.log).getD (i) At)).name:AgS).length)) rfl rfl (gF rfl) (fun hG111=>YG (l:=(((x.1.log).getD (i) At)).name) Eu (Ai rfl hG111) ⟨rfl,rfl⟩) (Av (gO fun _=>Af (.bool (decide ((32)<(((((x.1.log).getD (i) At)).name:AgS).length)))) rfl rfl (gF rfl) (fun hG112=>X0 (a:=((((((x.1.log).getD (i) At)).name:AgS).length:Nat):Int)) (b:=((32:Nat):Int)) (Ai rfl hG112) rfl (DL _ .i64 (((((x.1.log).getD (i) At)).name:AgS).length) (32)) ⟨rfl,rfl⟩) (Av (gS (Yh rfl rfl (fun hA=>(Ai rfl (BP hA))) fun bb113 hbb114=> ?_)))))))))))))));refine cB (bb113) rfl (fun u=> ?_) fun u=> ?_
  ·subst hbb107 hbb114;have hbad:Gy x.1.log i=true:=u;refine AC rfl (vr (.bool (false)) rfl) ?_;exact⟨by rw[Pq h1c h2c hlt hbad],hE⟩
  subst hbb107 hbb114;have hbad:Gy x.1.log i=false:=u;refine gS (X9 (xv:=NI i) (yv:=NI 1) n rfl rfl (AI _ _ _ (by have:=hL.log;omega)) (gK (AcC ⟨i+1,T0,T1,ad,ae,rfl,hE,c,by omega,OF hn hbad,trivial⟩ ?_)));show x.1.log.length-(intOf (NI ((i)+(1)))).toNat<x.1.log.length-(intOf (al 49)).toNat;rw[q49];simp only[intOf,Ab2];omega
 refine AC rfl (vr (.bool (true)) rfl) ?_;exact⟨by rw[FI h1c h2c (show x.1.log.length<=i by omega) hn],hE⟩
set_option maxHeartbeats 400000 in
theorem N6(w:Abw)(v:Abv)(l:AgS)(hr:RB w v l)(s:ByteArray)(hl:l.length+s.size+16<=140737488355328):
  Calls Abx 58 #[v, .string s] w fun e w' =>∃v',e = .returned v' /\NewB 5 w w' v' (l++AbX s.size++s.data.toList):=by
 obtain⟨i0,hi,a,b,c⟩:=info_parts O8;have h9:=HI s.size (by omega);have hss:s.data.toList.length=s.size:=by simp
 have HSS:=Ac8 hss;clear hss
 go_enter Tryz.func58,Tryz.ntmps58
 go_wp2_with fail
 refine(KI _ _ l hr (by omega)).mono ?_;rintro e w1 ⟨f,rfl,h1⟩
 go_wp2_with fail
 refine(JJ w.heap.size l.length s.size (by omega) f _ w1 h1.own h1.by_.size (by omega)).mono ?_;rintro e w2 ⟨h,rfl,ho,g⟩;have h2:=h1.more g ho
 go_wp2_with (at_builtin;refine C7 _ rfl _ _ 43 9 rfl w.heap.size 5 i0 (.int .u8 0) 1 1 GL hi a b c rfl _ _ _ rfl h2.own (.string s) _ _ rfl (QB Wp _ s) ?c1 ?c2 ?c3 ?_)
 case c1=>have:=HSS.out;rw[this,AbB];unfold maxLen;omega
 case c2=>have:=HSS.out;rw[this,AbB];omega
 case c3=>exact h2.by_.size
 intro v' i hown' hgrow
 go_wp2
 go_ret
 exact⟨v',rfl,h2.more hgrow (by rw[HSS.out,AbB];exact hown')⟩
def AJ(s:Bs):Bs:=AbX s.length++s
theorem Hj(w:Abw)(v:Abv)(l:Bs)(hr:RB w v l)(s:Bs)(hl:l.length+s.length+16<=140737488355328):
  Calls Abx 58 #[v,St s] w fun e w' =>∃v',e = .returned v' /\NewB 5 w w' v' (l++AJ s):=by
 have hs:(⟨s.toArray⟩:ByteArray).size=s.length:=by show s.toArray.size=_;rw[Ab8]
 have h:=N6 w v l hr ⟨s.toArray⟩ (by rw[hs];omega);have e:l++AbX (⟨s.toArray⟩:ByteArray).size++(⟨s.toArray⟩:ByteArray).data.toList=l++AJ s:=by
  unfold AJ;rw[hs,AbY]
 rw[e]at h;exact h
theorem BU{n:Nat}(h:n<=9223372036854775807):(AbX n).length<=9:=HI n (by omega)
def SB(g k lo n c:Nat)(v:Abv):Prop:=∃o,v = .slice (some ⟨g,o,none⟩) n c/\(0<c->o=lo*k)
def Ps(w:Abw)(v:Abv)(n c:Nat)(news:List Abv):Prop:=∃a,v = .slice (some a) n c/\∀j u,news[j]? =some u->w.cell? (a.add j)=some u
theorem SB.src{w:Abw}{g k lo n c:Nat}{v:Abv}{C:List Abv}{T:AbC}{fr:Nat × Nat}(h:SB g k lo n c v)(m:Nat)(hc:0<c\/m=0)(hC:w.heap[g]? =some (.cells C.toArray T fr)){D:List Abv}(hD:(C.drop (lo*k)).take m=D):Ps w v n c D:=by
 obtain⟨o,rfl,ho⟩:=h;subst hD;refine⟨_,rfl,fun j u hu=> ?_⟩;rcases hc with hc | rfl
 ·obtain rfl:=ho hc;rw[AcW];rw[Adu]at hu;split at hu
  ·rw[AdJ]at hu;exact Ac hC hu
  ·cases hu
 ·simp at hu
theorem Ym{g k lo n c:Nat}{v x:Abv}(h:SB g k lo n c v)(e:x=v):SB g k lo n c x:=by rw[e];exact h
theorem YZ(g k n c:Nat):SB g k 0 n c (.slice (some ⟨g,0,none⟩) n c):=⟨0,rfl,fun _=>(Ad4 _).symm⟩
theorem SB.eq{g k lo lo' n n' c c' :Nat}{v:Abv}(h:SB g k lo n c v)(a:lo=lo')(b:n=n')(e:c=c'):SB g k lo' n' c' v:=by subst a b e;exact h
abbrev Abh:=@SB.eq
theorem Te{P:AbQ}{e:AbC}{k b:Nat}(h:(P.info? e).map (fun i=>(i.size,i.bytes,i.zero.map fun z=>(z.cells.size,z.cells.toList.all fun u=>u.oneCell')))=some (k,b,some (k,true))):∃i z,P.info? e=some i/\i.size=k/\i.bytes=b/\i.zero=some z/\z.cells.size=k/\∀u∈z.cells.toList,u.oneCell' =true:=by
 cases hi:P.info? e with
 | none=>rw[hi]at h;cases h
 | some i=>
  rw[hi]at h;simp only[AcR,Adj,Prod.mk.injEq]at h;obtain⟨h1,h2,h3⟩:=h;cases hz:i.zero with
  | none=>rw[hz]at h3;cases h3
  | some z=>
   rw[hz]at h3;simp only[AcR,Adj,Prod.mk.injEq,List.all_eq_true]at h3;exact⟨i,z,rfl,h1,h2,hz,h3.1,h3.2⟩
theorem Mb{z:Abv}(h:∀u∈z.cells.toList,u.oneCell' =true)(n:Nat):∀u∈(Acs z.cells n).toList,u.oneCell' =true:=by
 intro u hu;simp only[Acs,Array.mem_toList_iff,Array.mem_map,Array.mem_range]at hu;obtain⟨i,hi,rfl⟩:=hu;have h0:0<z.cells.size:=by
  rcases Nat.eq_zero_or_pos z.cells.size with e | e
  ·rw[e]at hi;omega
  ·exact e
 have hl:=Nat.mod_lt i h0;rw[getElem!_pos z.cells _ hl];exact h _ (Array.getElem_mem_toList hl)
theorem FX{w:Abw}{g:Nat}{C:Array Abv}:w.grownBy (w.setRow g C) (some g):=⟨rfl,rfl,rfl,by simp,fun k _ hk=>setRow_other w g k _ (fun e=>hk (by rw[e]))⟩
section
variable {P : AbQ} {K : Abv -> Abw -> Prop} {ρ : Ah} {w : Abw} {d : Option Tmp} {ty : AbC} {pos : String} {af : Array Acn} {gd : Option (Nat × Bool)}
variable {g k lo n c : Nat} {s x : AbG}
theorem Yt{t e:AbC}(ht:P.underlying t=some (.slice e))(he:∀w' :Abw,(sizeOf e).run P w' = .ok k w'){a b:Option AbG}(h:SB g k lo n c (Ab ρ x))(l r:Nat) 
  (ha:a.map (Ab ρ)=none/\l=0\/∃q,a.map (Ab ρ)=some (.int q (l:Int))) (hb:b.map (Ab ρ)=none/\r=n\/∃q,b.map (Ab ρ)=some (.int q (r:Int))) (h1:l<=r) (h2:r<=c)
  (hk:∀v,SB g k (lo+l) (r-l) (c-l) v->K v w):Yk P K ((execOp (Ab ρ) ⟨d, .slice t x a b none,ty,pos,af,gd⟩).run P w):=by
 obtain⟨o,hx,ho⟩:=h;have hE:P.elem t=e:=by simp[AdI,ht]
 have ht' :P.underlying t=some (.slice (P.elem t)):=by rw[hE];exact ht
 refine AaO (v:=sliced (some ⟨g,o,none⟩) l r c k) (w' :=w) ?_ (hk _ ?_)
 ·unfold execOp;have h1' :(l:Int)<=(r:Int):=by omega
  have h2' :(r:Int)<=(c:Int):=by omega
  have hr:(AdP t (.slice (some ⟨g,o,none⟩) n c) (a.map (Ab ρ)) (b.map (Ab ρ)) none).run P w = .ok (sliced (some ⟨g,o,none⟩) l r c k) w:=by
   rw[run_sliceAt_slice (P:=P) w t _ _ _ _ ht'];rcases ha with ⟨f,rfl⟩ | ⟨q,f⟩ <;> rcases hb with ⟨i,rfl⟩ | ⟨q',i⟩ <;> rw[f,i]
   ·rw[run_slice_all (P:=P) w t _ _ _ ht',hE,he];rfl
   ·rw[run_slice_h (P:=P) w t _ _ _ ht' q' r (by omega) h2',hE,he];rfl
   ·rw[run_slice_l (P:=P) w t _ _ _ ht' q l (by omega) h1',hE,he];rfl
   ·rw[run_slice_lh (P:=P) w t _ _ _ ht' q q' l r (by omega) h1' h2',hE,he];rfl
  simp only[hx,Ado,hr,AbF,AbH,AbE]
 ·refine⟨if c=l then o else o+l*k,?_,fun h=> ?_⟩
  ·unfold sliced;split <;> simp[AcW]
  ·rw[if_neg (by omega),ho (by omega),AcQ]
theorem ZQ{t e:AbC}(ht:P.underlying t=some (.slice e))(he:∀w' :Abw,(sizeOf e).run P w' = .ok k w'){a b y:AbG}(h:SB g k lo n c (Ab ρ x)){l r m:Nat}{q1 q2 q3:AcJ} 
  (ha:Ab ρ a = .int q1 (l:Int)) (hb:Ab ρ b = .int q2 (r:Int)) (hm:Ab ρ y = .int q3 (m:Int)) (h1:l<=r) (h2:r<=m) (h3:m<=c)
  (hk:∀v,SB g k (lo+l) (r-l) (m-l) v->K v w):Yk P K ((execOp (Ab ρ) ⟨d, .slice t x (some a) (some b) (some y),ty,pos,af,gd⟩).run P w):=by
 obtain⟨o,hx,ho⟩:=h;have hE:P.elem t=e:=by simp[AdI,ht]
 have ht' :P.underlying t=some (.slice (P.elem t)):=by rw[hE];exact ht
 refine AaO (v:=sliced (some ⟨g,o,none⟩) l r m k) (w' :=w) ?_ (hk _ ?_)
 ·unfold execOp;have hr:(AdP t (.slice (some ⟨g,o,none⟩) n c) (some (.int q1 (l:Int))) (some (.int q2 (r:Int))) (some (.int q3 (m:Int)))).run P w = .ok (sliced (some ⟨g,o,none⟩) l r m k) w:=by
   rw[run_sliceAt_slice (P:=P) w t _ _ _ _ ht',run_slice_lhm (P:=P) w t _ _ _ ht' q1 q2 q3 l r m (by omega) (by omega) (by omega) (by omega),hE,he];rfl
  simp only[hx,ha,hb,hm,AcR,hr,AbF,AbH,AbE]
 ·refine⟨if m=l then o else o+l*k,?_,fun h=> ?_⟩
  ·unfold sliced;split <;> simp[AcW]
  ·rw[if_neg (by omega),ho (by omega),AcQ]
theorem Y1{t e:AbC}(ht:P.underlying t=some (.slice e))(h:SB g k lo n c (Ab ρ x))(hk:K (NI n) w):Yk P K ((execOp (Ab ρ) ⟨d, .call ⟨.builtin .len,#[x],#[t]⟩,ty,pos,af,gd⟩).run P w):=by
 obtain⟨o,hx,-⟩:=h;exact Zf ht hx hk
theorem ZD{t e:AbC}(ht:P.underlying t=some (.slice e))(h:SB g k lo n c (Ab ρ x))(hk:K (NI c) w):Yk P K ((execOp (Ab ρ) ⟨d, .call ⟨.builtin .cap,#[x],#[t]⟩,ty,pos,af,gd⟩).run P w):=by
 obtain⟨o,hx,-⟩:=h;have hE:P.elem t=e:=by simp[AdI,ht]
 refine AaO (v:=NI c) (w' :=w) ?_ hk;have hr:=run_cap_slice (P:=P) w t ty (some ⟨g,o,none⟩) n c (by rw[hE];exact ht);unfold execOp;simp only[resolve,invoke,builtin,hx,AbL,AbO,AbS,AbF,hr,AbE,AbH];rfl
theorem Y3{dT sT e T:AbC}(ht:P.underlying dT=some (.slice e))(he:∀w' :Abw,(sizeOf e).run P w' = .ok k w')(hd:SB g k lo n c (Ab ρ s))(hc:0<c){C:List Abv}(hC:w.heap[g]? =some (.cells C.toArray T (0,0))) 
  {b c2:Nat} (m:Nat) {news:List Abv} (hs:Ps w (Ab ρ x) b c2 news) (hm:Ad7 b n=m) (hl:news.length=m*k) (h1:∀u∈news,u.oneCell' =true) (hfit:lo*k+m*k<=C.length)
  (hk:∀w',w'.heap[g]? =some (.cells (C.take (lo*k)++news++C.drop (lo*k+m*k)).toArray T (0,0))->w.grownBy w' (some g)->w'.heap.size=w.heap.size->K (NI m) w'):
  Yk P K ((execOp (Ab ρ) ⟨d, .call ⟨.builtin .copy,#[s,x],#[dT,sT]⟩,ty,pos,af,gd⟩).run P w):=by
 obtain⟨o,hx,ho⟩:=hd;obtain rfl:=ho hc;obtain⟨a,hy,hn⟩:=hs;have hst:=run_storeCells_at P g (lo*k) T news 0 C.toArray w hC (by simp only[Ab8];omega) h1;simp only[AeU,hl]at hst;have hf:=run_firstCells_some (P:=P) w k m a b c2 news hl hn;refine AaO (v:=NI m) (w' :=w.setRow g (C.take (lo*k)++news++C.drop (lo*k+m*k)).toArray) ?_ (hk _ (setRow_heap w g C.toArray _ T (0,0) hC) FX (by simp));unfold execOp;have hr:(Agh #[dT,sT] ty #[.slice (some ⟨g,lo*k,none⟩) n c, .slice (some a) b c2]).run P w = .ok (NI m) (w.setRow g (C.take (lo*k)++news++C.drop (lo*k+m*k)).toArray):=by
  simp only[Agh,List.getElem?_toArray,List.getElem?_cons_zero,List.getElem?_cons_succ,AbF,run_underlying ht,AbE,he,Builtin.lenOf,AbH,hm,hf,hst];rfl
 simp only[resolve,invoke,builtin,hx,hy,AbL,AbO,AbS,AbF,hr,AbE,AbH]
theorem ZR{t e:AbC}{i:TypeInfo}(ht:P.underlying t=some (.slice e))(hi:P.info? e=some i)(hik:i.size=k)(hd:SB g k 0 n c (Ab ρ s))(hc:0<c){C:List Abv}(hC:w.heap[g]? =some (.cells C.toArray e (0,0))) 
  {m c2:Nat} {news:List Abv} (hs:Ps w (Ab ρ x) m c2 news) (hl:news.length=m*k) (h1:∀u∈news,u.oneCell' =true) (hroom:n+m<=c) (hfit:(n+m)*k<=C.length)
  (hk:∀w',w'.heap[g]? =some (.cells (C.take (n*k)++news++C.drop (n*k+m*k)).toArray e (0,0))->w.grownBy w' (some g)->w'.heap.size=w.heap.size->K (.slice (some ⟨g,0,none⟩) (n+m) c) w'):
  Yk P K ((execOp (Ab ρ) ⟨d, .call ⟨.builtin .append,#[s,x],#[t,t]⟩,ty,pos,af,gd⟩).run P w):=by
 obtain⟨o,hx,ho⟩:=hd;obtain rfl:o=0:=by rw[ho hc,Ad4]
 obtain⟨a,hy,hn⟩:=hs;subst hik;have hr:=run_append_room (P:=P) w t ty e i ht hi g n c C.toArray hC a m c2 news hl hn h1 hroom (by rw[hl,Ab8,<-AcQ];exact hfit);simp only[hl]at hr;refine AaO (v:= .slice (some ⟨g,0,none⟩) (n+m) c) (w' :=w.setRow g (C.take (n*i.size)++news++C.drop (n*i.size+m*i.size)).toArray) ?_ (hk _ (setRow_heap w g C.toArray _ e (0,0) hC) FX (by simp));unfold execOp;simp only[resolve,invoke,builtin,hx,hy,AbL,AbO,AbS,AbF,hr,AbE,AbH]
theorem Z7{t e T:AbC}{i:TypeInfo}{z:Abv}(ht:P.underlying t=some (.slice e))(hi:P.info? e=some i)(hz:i.zero=some z)(hzs:z.cells.size=k)(hd:SB g k lo n c (Ab ρ s))(hc:0<c)(hn:0<n){C:List Abv}(hC:w.heap[g]? =some (.cells C.toArray T (0,0))) 
  (h1:∀u∈(Acs z.cells n).toList,u.oneCell' =true) (hfit:lo*k+n*k<=C.length)
  (hk:∀w' Z,Z.length=n*k->w'.heap[g]? =some (.cells (C.take (lo*k)++Z++C.drop (lo*k+n*k)).toArray T (0,0))->w.grownBy w' (some g)->w'.heap.size=w.heap.size->K (.tuple #[]) w'):
  Yk P K ((execOp (Ab ρ) ⟨d, .call ⟨.builtin .clear,#[s],#[t]⟩,ty,pos,af,gd⟩).run P w):=by
 obtain⟨o,hx,ho⟩:=hd;obtain rfl:=ho hc;have hZ:(Acs z.cells n).toList.length=n*k:=by rw[Ac2,size_zeroCells,hzs]
 have hst:=run_storeCells_at P g (lo*k) T (Acs z.cells n).toList 0 C.toArray w hC (by rw[hZ];simp only[Ab8];omega) h1;simp only[AeU,hZ]at hst;obtain⟨m,rfl⟩:∃m,n=m+1:=⟨n-1,by omega⟩;have hr:(Builtin.clear_ #[t] ty #[.slice (some ⟨g,lo*k,none⟩) (m+1) c]).run P w = .ok (.tuple #[]) (w.setRow g (C.take (lo*k)++(Acs z.cells (m+1)).toList++C.drop (lo*k+(m+1)*k)).toArray):=by
  simp[Builtin.clear_,run_underlying ht,zeroValue,typeInfo,hi,hz,hst]
 refine AaO (v:= .tuple #[]) (w' :=_) ?_ (hk _ _ hZ (setRow_heap w g C.toArray _ T (0,0) hC) FX (by simp));unfold execOp;simp only[resolve,invoke,builtin,hx,AbL,AbO,AbS,AbF,hr,AbE,AbH]
theorem Zm{t tn e T:AbC}{kn kq:AcJ}{i:TypeInfo}{z:Abv}(ht:P.underlying t=some (.slice e))(htn:P.underlying tn=some (.int kn))(hi:P.info? e=some i)(hz:i.zero=some z)(hik:i.size=k)(hzs:z.cells.size=k)(a:0<k)(hd:SB g k 0 n c (Ab ρ s))(hc:0<c){C:List Abv}(hC:w.heap[g]? =some (.cells C.toArray T (0,0))) 
  {m:Nat} (hy:Ab ρ x = .int kq (m:Int)) (hm:0<m) (hroom:c<n+m) (hfit:n*k<=C.length) (hb:(n+m)*i.bytes<=140737488355328) (h63:n+m<=maxLen)
  (hk:∀b w' cap Z,w.heap.size=b->cap<=maxLen->n+m<=cap->Z.length=cap*k-n*k->w'.heap[b]? =some (.cells (C.take (n*k)++Z).toArray e (0,0))->Ext w w' ->w'.heap.size=w.heap.size+1->K (.slice (some ⟨b,0,none⟩) (n+m) cap) w'):
  Yk P K ((execOp (Ab ρ) ⟨d, .call ⟨.builtin .append,#[s,x],#[t,tn]⟩,ty,pos,af,gd⟩).run P w):=by
 obtain⟨o,hx,ho⟩:=hd;obtain rfl:o=0:=by rw[ho hc,Ad4]
 subst hik;have holds:∀j u,(C.take (n*i.size))[j]? =some u->w.drew.cell? ((⟨g,0,none⟩:Addr).add j)=some u:=fun j u hu=>by
  rw[Adu]at hu;split at hu
  ·rw[AcW,Adg];exact Ac (w:=w.drew) hC hu
  ·cases hu
 have hl:(C.take (n*i.size)).length=n*i.size:=by rw[AbU];omega
 have hr:=Lib.run_append_grow_zeros (P:=P) w t tn ty e i z kq kn ht htn hi hz (some ⟨g,0,none⟩) n c (C.take (n*i.size)) (run_firstCells_some w.drew i.size n ⟨g,0,none⟩ n c _ hl holds) m hm a hroom (by have:=h63;simp only[maxLen]at this;omega)
  (Abz (AdT _ (Nat.le_add_left m n)) (Abz hb (by decide))) (growslice_fits hroom hb)
 have hge:=grownCap_ge w (n+m) c e;have hcm:=grownCap_le_maxLen w (n+m) c e h63;refine AaO (v:= .slice (some ⟨w.heap.size,0,none⟩) (n+m) (grownCap w (n+m) c e)) (w' :=w.drew.alloc (.cells ((C.take (n*i.size)).toArray++Acs z.cells m++Acs z.cells (grownCap w (n+m) c e-(n+m))) e)) ?_
  (hk w.heap.size _ _ ((Acs z.cells m).toList++(Acs z.cells (grownCap w (n+m) c e-(n+m))).toList) rfl hcm hge ?_ ?_ (Aad ⟨rfl,rfl,rfl,by simp,fun k hk _=>heap_alloc_old w.drew _ hk⟩) (by simp))
 ·unfold execOp;simp only[resolve,invoke,builtin,hx,hy,AbL,AbO,AbS,AbF,hr,AbE,AbH]
 ·rw[AbB,Ac2,Ac2,size_zeroCells,size_zeroCells,hzs,<-AcQ,<-Nat.sub_mul]
  congr 1
  omega
 ·have:=heap_alloc_new w.drew (.cells ((C.take (n*i.size)).toArray++Acs z.cells m++Acs z.cells (grownCap w (n+m) c e-(n+m))) e);rw[show(C.take (n*i.size)++((Acs z.cells m).toList++(Acs z.cells (grownCap w (n+m) c e-(n+m))).toList)).toArray=(C.take (n*i.size)).toArray++Acs z.cells m++Acs z.cells (grownCap w (n+m) c e-(n+m))from by
   apply Array.toList_inj.1
   simp]
  exact this
end
theorem KO{P:AbQ}{w:Abw}{tS tR e:AbC}(ht:P.underlying tS=some (.slice e)){k:Nat}(hz:∀w,(Go.sizeOf e).run P w = .ok k w){a b:Nat}{v x:Abv}{lo' n' c' lo n c:Nat}(hv:SB a k lo' n' c' v)(hx:SB b k lo n c x)(hne:a≠b){A B:List Abv}{tA tB:AbC} 
  (hA:w.heap[a]? =some (.cells A.toArray tA (0,0))) (hB:w.heap[b]? =some (.cells B.toArray tB (0,0))) (h0:B≠ []):
  (Extern.SlicesOverlaps.overlaps #[tS,tS] #[tR] #[v,x]).run P w = .ok (.bool false) w:=by
 obtain⟨o,rfl,-⟩:=hx;obtain⟨oa,rfl,-⟩:=hv;exact Lib.run_overlaps_apart w tS tR e ht k hz ⟨a,oa,none⟩ ⟨b,o,none⟩ n' c' n c hne tA tB A.length B.length (by simp[World.shape?,hA]) (by simp[World.shape?,hB]) (by simpa using h0) (by simp[World.frozen?,hA]) (by simp[World.frozen?,hA])
theorem G0{P:AbQ}{e:AbC}{k b:Nat}(h:(P.info? e).map (fun i=>(i.zero.map (fun z=>z.cells.size),i.size,i.bytes))=some (some k,k,b)):∃z,(P.info? e).map (fun i=>(i.zero,i.size,i.bytes))=some (some z,k,b)/\z.cells.size=k:=by
 cases hi:P.info? e with
 | none=>rw[hi]at h;cases h
 | some i=>
  rw[hi]at h;simp only[AcR,Adj,Prod.mk.injEq]at h;cases hz:i.zero with
  | none=>rw[hz]at h;cases h.1
  | some z=>
   rw[hz]at h;simp only[AcR,Adj]at h;exact⟨z,by simp[hz,h.2.1,h.2.2],h.1⟩
section
variable {P : AbQ} {K : Abv -> Abw -> Prop} {ρ : Ah} {w : Abw} {d : Option Tmp} {ty : AbC} {pos : String} {af : Array Acn} {gd : Option (Nat × Bool)}
theorem Z8{t e s:AbC}{u:TypeDesc}(hs:P.underlying s=some u)(ht:P.underlying t=some (.slice e))(he:P.underlying e=some (.int .u8)){x:AbG}{l:AgS}(hx:Ab ρ x=St l)(hl:l.length<=9223372036854775807) 
  (hk:∀v w',RB w' v l->Ext w w' ->(∀k,v.ownBlock=some k->w.heap.size<=k/\k<w'.heap.size)->K v w'):Yk P K ((execOp (Ab ρ) ⟨d, .convert s t x,ty,pos,af,gd⟩).run P w):=by
 have hr:=Lib.run_convert_string_bytes (P:=P) w s t e ⟨l.toArray⟩ hs ht he;have hsz:(⟨l.toArray⟩:ByteArray).size=l.length:=by simp[ByteArray.size]
 rw[hsz]at hr;refine AaO (v:= .slice (some ⟨w.heap.size,0,none⟩) l.length (grownCap w l.length 0 e)) (w' :=Lib.bytesWorld w e ⟨l.toArray⟩) ?_ (hk _ _ ?_ (Lib.bytesWorld_below w e _) ?_)
 ·unfold execOp;simp only[hx,hr,AbF,AbH,AbE]
 ·refine⟨by rw[AbK,Nat.mul_one],_,_,rfl,grownCap_ge w _ _ _,grownCap_le_maxLen w _ _ _ (by simpa [maxLen] using hl),(fun h=>by cases h),fun a ha j u hu=> ?_⟩;cases ha;have hj:j<l.length:=by have:=(AbZ.1 hu).1;rwa [AbK]at this
  have hc:=Lib.bytesWorld_cell w e ⟨l.toArray⟩ j (by rw[hsz];exact hj);rw[show(⟨w.heap.size,0,none⟩:Addr).add j=⟨w.heap.size,j,none⟩ by simp[Addr.add];exact fun h=>h.symm];rw[hc,<-hu,Vn hj]
 ·intro k hk;cases hk;rw[Lib.bytesWorld_size];exact⟨AbA _,Nat.lt_succ_self _⟩
end
theorem Ll{α:Type}{l:List α}{i:Nat}{d:α}(h:i<l.length):l.take i++ [l.getD i d]=l.take (i+1):=by
 rw[List.take_add_one,AbJ h,AbD,AbJ h];rfl
open Go.ChangeShapes Go.WideShapes Go.ChangeAt Go.Deep
instance:Inhabited Ax:=⟨Az⟩
theorem MJ{H:Type}{enc:AbC × Abv->H}{W:Abw}:Opn enc Abx W 77 updC (fun x:Ax=>x.name.length<=9223372036854775807):=fun fuel cs x h=>by
 have ht:Tryz.prog.underlying 77=some (.struct (Tryz.prog.fieldsOf 77)):=by kernel_rfl
 obtain⟨a0,a,k0⟩:=FG (i:=0) (ty:=5) (o:=0) (k:=1) ht h (by kernel_rfl) (by kernel_rfl) (Opn.u8 (by kernel_rfl));obtain⟨a1,b,k1⟩:=FG (i:=1) (ty:=9) (o:=1) (k:=1) ht h (by kernel_rfl) (by kernel_rfl) (Aas (by kernel_rfl));obtain⟨a2,c,k2⟩:=FG (i:=2) (ty:=33) (o:=2) (k:=32) ht h (by kernel_rfl) (by kernel_rfl) (Opn.id (e:=5) (by kernel_rfl) (by kernel_rfl) (by kernel_rfl) (by kernel_rfl));obtain⟨a3,f,k3⟩:=FG (i:=3) (ty:=33) (o:=34) (k:=32) ht h (by kernel_rfl) (by kernel_rfl) (Opn.id (e:=5) (by kernel_rfl) (by kernel_rfl) (by kernel_rfl) (by kernel_rfl));have hl:cs.drop 66= []:=AdG (Afy ((Pa ht h).trans (by kernel_rfl)));refine⟨⟨a0,a1,a2,a3⟩,?_,k1⟩;rw[show cs=cs.drop 0 from rfl];rw[a];rw[show cs.drop (0+1)=_ from b];rw[show cs.drop (1+1)=_ from c];rw[show cs.drop (2+32)=_ from f];rw[show cs.drop (34+32)= []from hl];simp[updC]
theorem Rh{H:Type}{enc:AbC × Abv->H}{W:Abw}{r:Reach}{b0:Nat}{v:Abv}{d:DataW H}{ps:List MemPlace}(hval:Value.okWide Abx W r b0 41 v)(hd:DataW.Trod enc Abx W 0 (fun _=>true) true 41 v d ps):
  ∃l:List Ax,RG 66 updC W v l/\(∀u∈l,u.name.length<=9223372036854775807)/\∀p∈ps,p.block<W.heap.size:=by
 obtain⟨fuel,hf⟩:=hd;have hlt:=DataW.trod_lt fuel _ _ _ hf;obtain⟨a0,b,c0,rfl⟩:=okWide_slice (e:=77) (by kernel_rfl) hval;obtain⟨x,h1,h2,h3⟩:=Opn.slice (e:=77) (by kernel_rfl) (by kernel_rfl) (by decide) MJ (fun a _=>Cs a) _ _ _ hf;have h1: [AbM a0 b c0]= [x.1]:=h1;obtain h1:=(List.cons.inj h1).1;exact⟨x.2,by rw[h1];exact h2,h3,hlt⟩
theorem OG.block{α:Type}{b k:Nat}{t:AbC}{enc:α->List Abv}{w:Abw}{v:Abv}{l:List α}(h:OG b t k enc w v l){i:Nat}(hi:i<l.length):∃g,v.ownBlock=some g:=by
 obtain⟨-,-,⟨-,h⟩ | ⟨g,cap,cur,rfl,-⟩⟩:=h
 ·omega
 ·exact⟨g,rfl⟩
theorem Xz{b:Nat}{t:AbC}{w:Abw}{v:Abv}{n z:Nat}{xs:List Abv}(h:w.ownsRow b t z v n xs){i:Nat}(hi:i<n):∃g,v.ownBlock=some g:=by
 obtain⟨-,⟨-,h⟩ | ⟨g,cap,cur,rfl,-⟩⟩:=h
 ·omega
 ·exact⟨g,rfl⟩
section
variable {P : AbQ} {K : Abv -> Abw -> Prop} {ρ : Ah} {w : Abw} {d : Option Tmp} {ty : AbC} {pos : String} {af : Array Acn} {gd : Option (Nat × Bool)}
theorem Aam{k:Nat}{t e:AbC}(ht:P.underlying t=some (.slice e))(he:∀w' :Abw,(sizeOf e).run P w' = .ok k w'){b n g:Nat}{xs:List Abv}{e' :AbC}{v:Abv}{x y:AbG}(hx:Ab ρ x=v)(h:w.ownsRow b e' k v n xs)(hg:v.ownBlock=some g){kd:AcJ}{i:Nat}(hy:Ab ρ y = .int kd (i:Int))(hi:i<n) 
  (hk:K (PQ g (i*k)) w):Yk P K ((execOp (Ab ρ) ⟨d, .indexAddr t x y,ty,pos,af,gd⟩).run P w):=by
 obtain⟨-,⟨-,h0⟩ | ⟨g',cap,cur,rfl,-⟩⟩:=h
 ·omega
 ·obtain rfl:g' =g:=by simpa [Acf] using hg
  refine AaO (v:=PQ g' (i*k)) (w' :=w) ?_ hk;have hE:P.elem t=e:=by simp[AdI,ht]
  have hr:=run_indexAt_slice (P:=P) w t ⟨g',0,none⟩ n cap kd (i:Int) (by rw[hE];exact ht);rw[if_pos (by omega),hE,he]at hr;unfold execOp;simp only[hx,hy,AbF,hr,AbE,AbH];simp[AcW]
end
section
variable {P : AbQ}
theorem Ie{t e:AbC}{size:Nat}(ht:P.underlying t=some (.slice e))(he:∀w' :Abw,(sizeOf e).run P w' = .ok size w'){w:Abw}{v:Abv}{n:Nat}{xs:List Abv}(hr:Reads w size v n xs)(lo hi:Option Abv)(l h:Nat)(hlh:l<=h)(hn:h<=n) 
  (hlo:lo=none/\l=0\/∃k,lo=some (.int k l)) (hhi:hi=none/\h=n\/∃k,hi=some (.int k h)):
  ∃ao c,((∀w:Abw,(AdP t v lo hi none).run P w = .ok (.slice ao (h-l) c) w)/\(AbM ao (h-l) c).ownBlock=v.ownBlock)/\Reads w size (.slice ao (h-l) c) (h-l) ((xs.drop (l*size)).take ((h-l)*size)):=by
 obtain⟨h1,ao,cap,rfl,h2,h3,h4,h5⟩:=hr;have hE:P.elem t=e:=by simp[AdI,ht]
 have ht' :P.underlying t=some (.slice (P.elem t)):=by rw[hE];exact ht
 refine⟨if cap=l then ao else ao.map (·.add (l*size)),cap-l,⟨?_,?_⟩,?_,_,_,rfl,by omega,by omega,?_,?_⟩
 ·intro w;rw[run_sliceAt_slice (P:=P) w t _ _ _ _ ht'];have hl' :(l:Int)<=(h:Int):=by omega
  have hh' :(h:Int)<=(cap:Int):=by omega
  have hn' :(l:Int)<=(n:Int):=by omega
  rcases hlo with ⟨rfl,rfl⟩ | ⟨k,rfl⟩ <;> rcases hhi with ⟨rfl,rfl⟩ | ⟨k',rfl⟩
  ·rw[run_slice_all (P:=P) w t ao h cap ht',hE,he];simp[Acm,sliced]
  ·rw[run_slice_h (P:=P) w t ao n cap ht' k' h (by omega) hh',hE,he];simp[Acm,sliced]
  ·rw[run_slice_l (P:=P) w t ao h cap ht' k l (by omega) hl',hE,he];simp[Acm,sliced]
  ·rw[run_slice_lh (P:=P) w t ao n cap ht' k k' l h (by omega) hl' hh',hE,he];simp[Acm,sliced]
 ·cases ao with
  | none=>simp[Acf]
  | some x=>
   split
   ·rfl
   ·simp only[AcR,Acf,Adj];unfold Addr.add;split <;> rfl
 ·rw[AbU,AbV,h1];have:(h-l)*size<=n*size-l*size:=by rw[<-Nat.sub_mul];exact AdT _ (by omega)
  omega
 ·intro hnone;have:ao=none:=by
   cases ao with
   | none=>rfl
   | some x=>split at hnone <;> simp at hnone
  obtain⟨h6,h7⟩:=h4 this;omega
 ·intro a ha j u hu;have hj:j<((xs.drop (l*size)).take ((h-l)*size)).length:=(AbZ.1 hu).1;have hj2:j<(h-l)*size:=by rw[AbU]at hj;omega
  have hhl:h-l≠0:=fun e=>by rw[e]at hj2;simp at hj2
  rw[if_neg (by omega)]at ha;cases ao with
  | none=>simp at ha
  | some x=>
   simp at ha;subst ha;rw[FR];refine h5 x rfl _ _ ?_;rw[Adu,if_pos hj2,AdJ]at hu;exact hu
end
section
variable {P : AbQ} {K : Abv -> Abw -> Prop} {ρ : Ah} {w w0 : Abw} {d : Option Tmp} {ty : AbC} {pos : String} {af : Array Acn} {gd : Option (Nat × Bool)}
variable {α : Type} {k : Nat} {enc : α -> List Abv} {t e : AbC}
theorem Zd(ht:P.underlying t=some (.slice e))(he:∀w' :Abw,(sizeOf e).run P w' = .ok k w'){x lo:AbG}{v:Abv}{xs:List α}(hx:Ab ρ x=v)(h:RG k enc w0 v xs){kd:AcJ}{l:Nat}(hlo:Ab ρ lo = .int kd (l:Int))(hl:l<=xs.length) 
  (hk:∀v',RG k enc w0 v' (xs.drop l)->v'.ownBlock=v.ownBlock->K v' w):Yk P K ((execOp (Ab ρ) ⟨d, .slice t x (some lo) none none,ty,pos,af,gd⟩).run P w):=by
 obtain⟨ao,c,⟨hrun,hb⟩,hR⟩:=Ie ht he h.2 (some (.int kd l)) none l xs.length hl (AbA _) (.inr ⟨kd,rfl⟩) (.inl ⟨rfl,rfl⟩);have hR' :=RG.cut h.1 hl (AbA _) hR;rw[Acb (by rw[AbV];exact AbA _)]at hR';refine AaO (v:= .slice ao (xs.length-l) c) (w' :=w) ?_ (hk _ hR' hb);unfold execOp;simp only[hx,hlo,AcR,Ado,hrun,AbF,AbH,AbE]
end
section
variable {P : AbQ} {K : Abv -> Abw -> Prop} {ρ : Ah} {w : Abw} {d : Option Tmp} {ty : AbC} {pos : String} {af : Array Acn} {gd : Option (Nat × Bool)}
theorem AaB{t ty2:AbC}{x y:AbG}{l m:AgS}(hx:Ab ρ x=St l)(hy:Ab ρ y=St m)(hk:K (.bool (!(Ab7 l m||l==m))) w):Yk P K ((execOp (Ab ρ) ⟨d, .binOp .gtr t x y ty2,ty,pos,af,gd⟩).run P w):=by
 refine AaO (v:= .bool (!(Ab7 l m||l==m))) (w' :=w) ?_ hk;unfold execOp;simp only[hx,hy,eqGuard,Ace,Op.stringOp,EZ,AbF,AbH];rfl
end
def DH(a b:AgS):Int:=if Ab7 a b=true then -1 else if(!(Ab7 a b||a==b))=true then 1 else 0
theorem ML{a b:AgS}:DH a b<0↔a<b:=by
 unfold DH;rw[bytesLess_eq];by_cases h:a<b
 ·simp[h]
 ·simp only[h,decide_false,Bool.false_eq_true,if_false,iff_false];split <;> omega
theorem Ri{a b:AgS}:DH a b=0↔a=b:=by
 unfold DH;rw[bytesLess_eq];by_cases h:a<b
 ·simp only[h,decide_true,if_true];constructor
  ·intro e;omega
  ·rintro rfl;exact absurd h (List.lt_irrefl _)
 ·simp only[h,decide_false,Bool.false_eq_true,if_false,Bool.false_or];by_cases e:a=b
  ·subst e;simp
  ·simp[e]
def Ds(l:List AF):Prop:=∀i j,i<j->j<l.length->(l.getD i dNmd).name<(l.getD j dNmd).name
def II(l:List AF)(s:AgS)(p:Nat):Prop:=p<=l.length/\(∀j,j<p->(l.getD j dNmd).name<s)/\(∀j,p<=j->j<l.length->¬(l.getD j dNmd).name<s)
theorem Rj{l:List AF}{s:AgS}{m:Nat}(hs:Ds l)(hm:m<l.length)(h:(l.getD m dNmd).name<s):∀j,j<m+1->(l.getD j dNmd).name<s:=fun j hj=>by
 by_cases e:j=m
 ·rw[e];exact h
 ·exact Afj (hs j m (by omega) hm) h
theorem J4{l:List AF}{s:AgS}{m:Nat}(hs:Ds l)(h:¬(l.getD m dNmd).name<s):∀j,m<=j->j<l.length->¬(l.getD j dNmd).name<s:=fun j hj hl hk=>by
 by_cases e:m=j
 ·subst e;exact h hk
 ·exact h (Afj (hs m j (by omega) hl) hk)
theorem MM:Tryz.prog.underlying 3=some (.int .i64):=by kernel_rfl
theorem J5:Tryz.prog.underlying 198=some (.int .u64):=by kernel_rfl
theorem J6:Plain Abx 194:=fun _ _=>by kernel_rfl
theorem If(w:Abw)(n:AF)(s:Bs):
  Calls Abx 194 #[.agg (nmdC n).toArray,St s] w fun e w' =>e = .returned (.int .i64 (DH n.name s))/\Ext w w' :=by
 refine gG (args:= [.agg (nmdC n).toArray,St (s)]) Tryz.func194 rfl 15 rfl rfl ?_;have hE:=AaI w;refine gS (AaY (vr (.agg (nmdC n).toArray) rfl) fun h i j f b k=> ?_);have g:=f;clear f;have o:h<i.heap.size:=by omega
 refine gS (AaH Gz rfl (gS (XZ Eu rfl rfl (Ac g (EJ n)) (gS (ZW (l:=n.name) (m:=s) (.inl rfl) rfl rfl (Ab7 n.name s) rfl ?_)))));refine cB (Ab7 n.name s) rfl (fun a=> ?_) fun a=> ?_
 ·refine AC rfl (vr (.int .i64 (-1:Int)) rfl) ?_;have hE:=hE.trans b;exact⟨congrArg AcZ (congrArg (AdK .i64) (by unfold DH;(rw[if_pos a]) <;> rfl)),hE⟩
 refine gS (AaH Gz rfl (gS (XZ Eu rfl rfl (Ac g (EJ n)) (gS (AaB (l:=n.name) (m:=s) rfl rfl ?_)))));refine cB (!(Ab7 n.name s||n.name==s)) rfl (fun c=> ?_) fun c=> ?_
 ·refine AC rfl (vr (NI 1) rfl) ?_;have hE:=hE.trans b;exact⟨congrArg AcZ (congrArg (AdK .i64) (by unfold DH;(rw[if_neg (by rw[a];decide),if_pos c]) <;> rfl)),hE⟩
 refine AC rfl (vr (NI 0) rfl) ?_;have hE:=hE.trans b;exact⟨congrArg AcZ (congrArg (AdK .i64) (by unfold DH;(rw[if_neg (by rw[a];decide),if_neg (by rw[c];decide)]) <;> rfl)),hE⟩
theorem Pt(w:Abw)(v:Abv)(l:List AF)(hr:RG 33 nmdC w v l)(hl:l.length<=1000)(hs:Ds l)(s:Bs):
  Calls Abx 193 #[v,St s, .func (.func 194) #[] #[]] w fun e w' =>(∃p,e = .returned (.tuple #[NI p, .bool (decide (p<l.length)&&decide ((DH (l.getD p dNmd).name s)=((0:Nat):Int)))])/\II l s p)/\Ext w w' :=by
 refine FV (args:= [v,St (s), .func (.func 194) #[] #[]]) Tryz.func193 rfl 49 rfl rfl ?_;have hE:=AaI w;refine gS (Yb EB (Ya hr rfl) (gL (fun(ρ:Ah) (wz:Abw)=>∃i:Nat,∃k:Nat,ρ 0=(v:Abv)/\ρ 1=(St (s):Abv)/\ρ 2=(.func (.func 194) #[] #[]:Abv)/\ρ 6=(NI 0:Abv)/\ρ 7=(.bool (false):Abv)/\ρ 8=(NI l.length:Abv)/\ρ 9=(NI i:Abv)/\ρ 10=(NI k:Abv)/\RG 33 nmdC wz v l/\Ext w wz/\(i<=k)/\(k<=l.length)/\(∀j,j<i->(l.getD j dNmd).name<s)/\(∀j,k<=j->j<l.length->¬(l.getD j dNmd).name<s)/\True) (fun ρ _=>(intOf (ρ 10)).toNat-(intOf (ρ 9)).toNat) ⟨0,l.length,rfl,rfl,rfl,rfl,rfl,rfl,rfl,rfl,hr,hE,AbT _,AbA _,fun j hj=>absurd hj (AcN _),fun j h1 h2=>by omega,trivial⟩ ?_));clear hr hE;rintro f w6 ⟨i,k,n,T1,o,y,z,t,c,g,hr,hE,hik,hkl,hlo,hhi,-⟩;have q10:=g;have q9:=c;refine gS (X0 (a:=(i:Nat)) (b:=(k:Nat)) c g (Bh _ _ _ _) ?_);refine cD rfl (fun aa=> ?_) fun aa=> ?_
 ·have hlt:i<k:=aa;have hm0:((i+k)/2^(1))<l.length:=by omega
  refine gS (X9 (xv:=NI i) (yv:=NI k) c g rfl (AI _ _ _ (by omega)) (gS (YO MM J5 rfl (S8 ((i)+(k)) (by omega)) (gS (X9 (xv:= .int .u64 (((i)+(k):Nat):Int)) (yv:= .int .u64 ((1:Nat):Int)) rfl rfl rfl (Vo _ _ _ _ (by omega)) (gS (YO J5 MM rfl (Jk (((i)+(k))/2^(1)) (by omega)) ?_)))))));have ad:(nmdC (l.getD (((i)+(k))/2^(1)) dNmd)).length=33:=(AaW hr dNmd (by omega));refine gS (Yn EB J1 (by decide) dNmd (Ya hr n) rfl (by omega) fun ae q=>(gS (X6 (Ys q rfl) (Lf).choose_spec rfl (by rw[BC];exact J2) (gS (Yv J6 (caps:= #[]) o #[.agg (nmdC (l.getD (((i)+(k))/2^(1)) dNmd)).toArray,St (s)] (by simp only[AbL,AbO,AbS,Ack,Ab5,Acg];exact congrArg Ab6 (B3 rfl T1)) ((If _ (l.getD (((i)+(k))/2^(1)) dNmd) s).mono ?_))))));rintro e af ⟨rfl,m⟩;refine⟨_,rfl,?_⟩;have q:=Aa7 q m;refine gS (X0 rfl rfl (U1 _ .i64 ((DH (l.getD (((i)+(k))/2^(1)) dNmd).name s):Int) ((0:Nat):Int)) ?_);clear q;refine cD rfl (fun u=> ?_) fun u=> ?_
  ·have hr:=hr.keep m;have hE:=hE.trans m;refine gS (X9 (xv:=NI (((i)+(k))/2^(1))) (yv:=NI 1) rfl rfl rfl (AI _ _ _ (by omega)) (gK (AcC ⟨((i+k)/2^(1))+1,k,n,T1,o,y,z,t,rfl,g,hr,hE,by omega,by omega,Rj hs (by omega) (ML.1 u),hhi,trivial⟩ ?_)));show(intOf (f 10)).toNat-(intOf (NI ((((i)+(k))/2^(1))+(1)))).toNat<(intOf (f 10)).toNat-(intOf (f 9)).toNat;rw[g,q9];simp only[intOf,Ab2];omega
  have hr:=hr.keep m;have hE:=hE.trans m;refine gK (AcC ⟨i,((i+k)/2^(1)),n,T1,o,y,z,t,c,rfl,hr,hE,by omega,by omega,hlo,J4 hs (fun h=>u (ML.2 h)),trivial⟩ ?_);show(intOf (NI (((i)+(k))/2^(1)))).toNat-(intOf (f 9)).toNat<(intOf (f 10)).toNat-(intOf (f 9)).toNat;rw[c,q10];simp only[intOf,Ab2];omega
 refine gS (X0 (a:=(i:Nat)) (b:=(l.length:Nat)) c t (Bh _ _ _ _) (gO fun _=>Af (.func (.func 194) #[] #[]) rfl rfl (gT rfl) (fun hG17=>AaP o ⟨rfl,rfl⟩) (Av (gO fun _=>Af (v) rfl rfl (gT rfl) (fun hG18=>AaP n ⟨rfl,rfl⟩) (Av (gO fun _=>Af (NI i) rfl rfl (gT rfl) (fun hG19=>AaP c ⟨rfl,rfl⟩) (Av ?_)))))));have ag:((decide ((i)<(l.length))))=true->(nmdC (l.getD (i) dNmd)).length=33:=fun hG20=>(AaW hr dNmd (by first | omega | (simp only[gA,gB,gC,gD,gE]at hG20;omega)));refine gO fun _=>QP (fun x=>PR (nmdC (l.getD (i) dNmd)) x w6) rfl rfl (gT (vr (.bool (decide ((i)<(l.length)))) rfl)) (fun hG20=>Yn EB J1 (by decide) dNmd (Ya hr (Ai (vr (cond ((decide ((i)<(l.length)))) (v) undef) rfl) hG20)) (Ai (vr (cond ((decide ((i)<(l.length)))) (NI i) undef) rfl) hG20) (by first | omega | (simp only[gA,gB,gC,gD,gE]at hG20;omega)) fun _ h=>⟨h,rfl⟩) fun x r=>Av (gO fun _=>Af (.agg (nmdC (l.getD (i) dNmd)).toArray) rfl rfl (gT (vr (.bool (decide ((i)<(l.length)))) rfl)) (fun hG24=>X6 (Ys (r hG24) (vr x rfl)) (Lf).choose_spec rfl (by rw[BC];exact J2) ⟨rfl,rfl⟩) (Av (gO fun _=>Af (St (s)) rfl rfl (gT (vr (.bool (decide ((i)<(l.length)))) rfl)) (fun hG25=>AaP T1 ⟨rfl,rfl⟩) (Av (gO fun _=>Cd (.int .i64 ((DH (l.getD (i) dNmd).name s):Int)) rfl rfl (gT (vr (.bool (decide ((i)<(l.length)))) rfl)) (fun hG26=>Yv J6 (caps:= #[]) (Ai (vr (cond ((decide ((i)<(l.length)))) (.func (.func 194) #[] #[]) undef) rfl) hG26) #[.agg (nmdC (l.getD (i) dNmd)).toArray,St (s)] (by simp only[AbL,AbO,AbS,Ack,Ab5,Acg];exact congrArg Ab6 (B3 (Ai (vr (cond ((decide ((i)<(l.length)))) (.agg (nmdC (l.getD (i) dNmd)).toArray) undef) rfl) hG26) (Ai (vr (cond ((decide ((i)<(l.length)))) (St (s)) undef) rfl) hG26))) ((If _ (l.getD (i) dNmd) s).mono (by rintro e w2 ⟨rfl,hx⟩;exact⟨_,rfl,rfl,hx⟩))) fun ah ab=>Av ?_)))));have r:=fun(e_:((decide ((i)<(l.length))))=true)=>(Aa7 (r e_) ab);refine gO fun _=>Af (.bool (decide (((DH (l.getD (i) dNmd).name s):Int)=((0:Nat):Int)))) rfl rfl (gT rfl) (fun hG30=>X0 (Ai rfl hG30) rfl (W6 _ .i64 ((DH (l.getD (i) dNmd).name s):Int) ((0:Nat):Int)) ⟨rfl,rfl⟩) (Av (gS (Yg rfl (fun hA=>(Ai rfl hA)) rfl fun bb31 hbb32=> ?_)));clear r;refine DC rfl c (vr (.bool (bb31)) rfl) ?_;subst hbb32;have hE:=hE.trans ab;exact⟨⟨i,rfl,by omega,hlo,fun j hj=>hhi j (by omega)⟩,hE⟩
section
variable {P : AbQ} {K : Abv -> Abw -> Prop} {ρ : Ah} {w : Abw} {d : Option Tmp} {ty : AbC} {pos : String} {af : Array Acn} {gd : Option (Nat × Bool)}
theorem Rl{t e:AbC}(ht:P.underlying t=some (.slice e))(a:Option Addr)(n c:Nat)(w:Abw):(Op.equal t (.slice a n c) (.slice none 0 0)).run P w = .ok a.isNone w:=by
 unfold Op.equal;rw[show Op.maxDepth=(Op.maxDepth-1)+1 from rfl];cases a <;> simp[Op.equalIn,run_underlying ht,AbF,AbH]
theorem YL{t e ty2:AbC}(ht:P.underlying t=some (.slice e)){x:AbG}{a:Option Addr}{n c:Nat}(hx:Ab ρ x = .slice a n c)(hk:K (.bool a.isNone) w):Yk P K ((execOp (Ab ρ) ⟨d, .binOp .eql t x (.const (.slice none 0 0)) ty2,ty,pos,af,gd⟩).run P w):=by
 have hy:Ab ρ (.const (.slice none 0 0)) = .slice none 0 0:=rfl;refine AaO (v:= .bool a.isNone) (w' :=w) ?_ hk;have hr:=Rl ht a n c w;unfold execOp;simp only[hx,hy];cases a <;> simp[eqGuard,Ace,hr]
end
def OH(u:Ax):Bool:=(decide (u.kind.toNat=2)&&(!Ag u.old))&&(!Ag u.new)
def OI(u:Ax):Bool:=decide (u.kind.toNat=3)&&((!Ag u.old)||(decide (u.name= [])==Ag u.new))
def OJ(u:Ax):Bool:=(!Au u.name)&&(decide (u.kind.toNat≠3)||decide (u.name≠ []))
def Bu(u:Ax):Nat:=if(!DM u.kind)=true then 1 else if OH u=true then 1 else if OI u=true then 1 else if OJ u=true then 10 else 0
def BG(l:List AF)(s:Bs)(p:Nat):Bool:=decide (p<l.length)&&decide ((l.getD p dNmd).name=s)
theorem Tf(l:List AF)(s:Bs)(p:Nat):(decide (p<l.length)&&decide ((DH (l.getD p dNmd).name s)=((0:Nat):Int)))=BG l s p:=by
 unfold BG;rw[show decide ((DH (l.getD p dNmd).name s)=((0:Nat):Int))=decide ((l.getD p dNmd).name=s)from decide_eq_decide.2 Ri]
theorem Pu(w:Abw):(Ab4 31 0 #[]).run Abx w = .ok (.slice (some ⟨w.heap.size,0,none⟩) 0 0) (w.alloc (.cells #[] 94)):=by kernel_rfl
theorem wr30_ig94:∃z,(Tryz.prog.info? 94).map (fun i=>(i.zero,i.size,i.bytes))=some (some z,33,48)/\z.cells.size=33:=G0 (by kernel_rfl)
theorem Pv(w:Abw):(Ab4 34 0 #[]).run Abx w = .ok (.slice (some ⟨w.heap.size,0,none⟩) 0 0) (w.alloc (.cells #[] 97)):=by kernel_rfl
theorem wr30_ig97:∃z,(Tryz.prog.info? 97).map (fun i=>(i.zero,i.size,i.bytes))=some (some z,67,104)/\z.cells.size=67:=G0 (by kernel_rfl)
theorem Pw:Plain Abx 193:=fun _ _=>by kernel_rfl
theorem IY:AG Abx 77 2 2:=fun b o w=>by simp[go_sem]
theorem IZ:AG Abx 77 3 34:=fun b o w=>by simp[go_sem]
theorem Th:Tryz.prog.underlying 4=some (.bool):=by kernel_rfl
theorem Rm(w:Abw):
  Calls Abx 36 #[(.slice none 0 0)] w fun e w' =>∃v',e = .returned v' /\OG w.heap.size 94 33 nmdC w' v' []/\Ext w w' :=by
 refine gG (args:= [(.slice none 0 0)]) Tryz.func36 rfl 8 rfl rfl ?_;have hE:=AaI w;refine gS (YL EB rfl (cT rfl (AC rfl (vr (AbM none 0 0) rfl) ?_)));exact⟨_,rfl,AaT _ _ _ _ _,hE⟩
theorem Rn(w:Abw)(a:Addr)(c:Nat)(l:List AF)(hr:RG 33 nmdC w (.slice (some a) l.length c) l)(hl:l.length<1000000):
  Calls Abx 36 #[(.slice (some a) l.length c)] w fun e w' =>∃v',e = .returned v' /\OG w.heap.size 94 33 nmdC w' v' l/\Ext w w' :=by
 refine gG (args:= [(.slice (some a) l.length c)]) Tryz.func36 rfl 8 rfl rfl ?_;have hE:=AaI w;refine gS (YL EB rfl (cF rfl (gS (Zz (k:=33) (enc:=nmdC) Pu fun g i b j=> ?_))));have hE:=hE.trans j;refine gS (Yw _ _ w.heap.size _ 48 EB wr30_ig94.choose_spec.1 wr30_ig94.choose_spec.2 EB ([]) (l) (YR b (vr g rfl)) (Ya (hr.keep hE) (vr (.slice (some a) l.length c) rfl)) (fun _ _=>DF) (by simp only[AbR];omega) (by simp only[AbR];omega) hE.size fun h m n f=> ?_);have f:Grew i m g h:=f;have hE:=Bp hE f b.2 (AbA _);clear b;refine AC rfl (vr h rfl) ?_;exact⟨_,rfl,(show OG _ _ _ _ _ _ _ from by simpa using n),hE⟩
theorem Df(w:Abw)(v:Abv)(l:List AF)(h:RG 33 nmdC w v l)(hl:l.length<1000000):
  Calls Abx 36 #[v] w fun e w' =>∃v',e = .returned v' /\OG w.heap.size 94 33 nmdC w' v' l/\Ext w w' :=by
 obtain⟨h0,h1,ao,cap,rfl,h2,h3,h4,h5⟩:=id h;cases ao with
 | none=>
  have hl:=h4 rfl;have:l= []:=Acp hl.1;subst this;rw[show cap=0 from hl.2];exact Rm w
 | some a=>exact Rn w a cap l h hl
theorem Ro(w:Abw):
  Calls Abx 37 #[(.slice none 0 0)] w fun e w' =>∃v',e = .returned v' /\OG w.heap.size 97 67 entC w' v' []/\Ext w w' :=by
 refine gG (args:= [(.slice none 0 0)]) Tryz.func37 rfl 8 rfl rfl ?_;have hE:=AaI w;refine gS (YL Ff rfl (cT rfl (AC rfl (vr (AbM none 0 0) rfl) ?_)));exact⟨_,rfl,AaT _ _ _ _ _,hE⟩
theorem Rp(w:Abw)(a:Addr)(c:Nat)(l:List A7)(hr:RG 67 entC w (.slice (some a) l.length c) l)(hl:l.length<1000000):
  Calls Abx 37 #[(.slice (some a) l.length c)] w fun e w' =>∃v',e = .returned v' /\OG w.heap.size 97 67 entC w' v' l/\Ext w w' :=by
 refine gG (args:= [(.slice (some a) l.length c)]) Tryz.func37 rfl 8 rfl rfl ?_;have hE:=AaI w;refine gS (YL Ff rfl (cF rfl (gS (Zz (k:=67) (enc:=entC) Pv fun g i b j=> ?_))));have hE:=hE.trans j;refine gS (Yw _ _ w.heap.size _ 104 Ff wr30_ig97.choose_spec.1 wr30_ig97.choose_spec.2 Ff ([]) (l) (YR b (vr g rfl)) (Ya (hr.keep hE) (vr (.slice (some a) l.length c) rfl)) (fun _ _=>FK) (by simp only[AbR];omega) (by simp only[AbR];omega) hE.size fun h m n f=> ?_);have f:Grew i m g h:=f;have hE:=Bp hE f b.2 (AbA _);clear b;refine AC rfl (vr h rfl) ?_;exact⟨_,rfl,(show OG _ _ _ _ _ _ _ from by simpa using n),hE⟩
theorem FY(w:Abw)(v:Abv)(l:List A7)(h:RG 67 entC w v l)(hl:l.length<1000000):
  Calls Abx 37 #[v] w fun e w' =>∃v',e = .returned v' /\OG w.heap.size 97 67 entC w' v' l/\Ext w w' :=by
 obtain⟨h0,h1,ao,cap,rfl,h2,h3,h4,h5⟩:=id h;cases ao with
 | none=>
  have hl:=h4 rfl;have:l= []:=Acp hl.1;subst this;rw[show cap=0 from hl.2];exact Ro w
 | some a=>exact Rp w a cap l h hl
theorem Rq(w:Abw)(v:Abv)(l:List AF)(hr:RG 33 nmdC w v l)(hl:l.length<=1000)(hs:Ds l)(s:Bs):
  Calls Abx 154 #[v,St s] w fun e w' =>(∃p,e = .returned (.tuple #[NI p, .bool (BG l s p)])/\II l s p)/\Ext w w' :=by
 refine gG (args:= [v,St (s)]) Tryz.func154 rfl 11 rfl rfl ?_;have hE:=AaI w;refine gS (Yc Pw rfl rfl rfl ((Pt _ v l hr hl hs s).mono ?_));rintro e b ⟨⟨p,rfl,hp⟩,a⟩;refine⟨_,rfl,?_⟩;have hr:=hr.keep a;have hE:=hE.trans a;refine gS (AaK (vs:= [NI p, .bool ((decide (p<l.length)&&decide ((DH (l.getD p dNmd).name s)=((0:Nat):Int))))]) rfl rfl (gS (AaK (vs:= [NI p, .bool ((decide (p<l.length)&&decide ((DH (l.getD p dNmd).name s)=((0:Nat):Int))))]) rfl rfl (DC rfl (vr (NI p) rfl) (vr (.bool ((decide (p<l.length)&&decide ((DH (l.getD p dNmd).name s)=((0:Nat):Int))))) rfl) ?_))));exact⟨⟨p,by rw[<-Tf],hp⟩,hE⟩
theorem Px(w:Abw)(y:Ax)(hl:y.name.length<=9223372036854775807):
  Calls Abx 39 #[.agg (updC y).toArray] w fun e w' =>e = .returned (NI (Bu y))/\Ext w w' :=by
 refine FV (args:= [.agg (updC y).toArray]) Tryz.func39 rfl 56 rfl rfl ?_;have hE:=AaI w;refine gS (AaY (vr (.agg (updC y).toArray) rfl) fun f u av o v aw=> ?_);have hE:=hE.trans v;have c:=o;clear o;have ax:f<u.heap.size:=by omega
 refine gS (AaH N3 rfl (gS (XZ u5 rfl rfl (Ac c (Fc y)) (gS (X4 Rf rfl ((Lj _ y.kind).mono ?_))))));rintro e ay ⟨rfl,p⟩;refine⟨_,rfl,?_⟩;have hE:=hE.trans p;have c:=eb p c;refine gS (Yi rfl ?_);refine cB (!(DM y.kind)) rfl (fun i=> ?_) fun i=> ?_
 ·have h0c:(!DM y.kind)=true:=i;refine cT (vr (.bool (true)) ((show _=Ac5 ((!DM y.kind))from rfl).trans (congrArg Ac5 h0c))) (AC rfl (vr (NI 1) rfl) ?_);exact⟨by unfold Bu;rw[if_pos h0c],hE⟩
 have h0c:(!DM y.kind)=false:=i;refine gS (AaH N3 rfl (gS (XZ u5 rfl rfl (Ac c (Fc y)) (gS (X0 (a:=((y.kind).toNat:Nat)) (b:=(2:Nat)) rfl rfl (AH _ _ _ _) (gO fun _=>Af (PQ f 2) rfl rfl (gT rfl) (fun hG17=>AaH IY rfl ⟨rfl,rfl⟩) (Av (gO fun _=>Af (AB y.old.1) rfl rfl (gT rfl) (fun hG18=>X6 (AaV c (Ei y) (EI y) (Ai rfl hG18)) U7 rfl (Ar y.old.2) ⟨rfl,rfl⟩) (Av (gO fun _=>Cd (.bool (Ag y.old)) rfl rfl (gT rfl) (fun hG19=>X4 Id (Ai rfl hG19) ((B0 _ y.old).mono (by rintro e w2 ⟨rfl,hx⟩;exact⟨_,rfl,rfl,hx⟩))) fun az q=>Av ?_))))))))));have hE:=hE.trans q;have c:=eb q c;refine gO fun _=>Af (.bool (!(Ag y.old))) rfl rfl (gT rfl) (fun hG23=>Yi (Ai rfl hG23) ⟨rfl,rfl⟩) (Av (gS (Yg rfl (fun hA=>(Ai rfl hA)) rfl fun bb24 hbb25=>(gO fun _=>Af (PQ f 34) rfl rfl (gT rfl) (fun hG26=>AaH IZ rfl ⟨rfl,rfl⟩) (Av (gO fun _=>Af (AB y.new.1) rfl rfl (gT rfl) (fun hG27=>X6 (AaV c (CN y) (CX y) (Ai rfl hG27)) U7 rfl (Ar y.new.2) ⟨rfl,rfl⟩) (Av (gO fun _=>Cd (.bool (Ag y.new)) rfl rfl (gT rfl) (fun hG28=>X4 Id (Ai rfl hG28) ((B0 _ y.new).mono (by rintro e w2 ⟨rfl,hx⟩;exact⟨_,rfl,rfl,hx⟩))) fun a0 r=>Av ?_))))))));have hE:=hE.trans r;have c:=eb r c;refine gO fun _=>Af (.bool (!(Ag y.new))) rfl rfl (gT rfl) (fun hG32=>Yi (Ai rfl hG32) ⟨rfl,rfl⟩) (Av (gS (Yg rfl (fun hA=>(Ai rfl hA)) rfl fun bb33 hbb34=> ?_)));refine cB (bb33) rfl (fun j=> ?_) fun j=> ?_
 ·subst hbb25 hbb34;have h1c:OH y=true:=j;refine cT (vr (.bool (true)) ((show _=Ac5 (OH y)from rfl).trans (congrArg Ac5 h1c))) (AC rfl (vr (NI 1) rfl) ?_);exact⟨by unfold Bu;rw[if_neg (by rw[h0c];decide),if_pos h1c],hE⟩
 subst hbb25 hbb34;have h1c:OH y=false:=j;refine gR ?_;refine EX [Is (PQ f 0),Is (B8 (y.kind)),Is (.bool (decide (((y.kind).toNat:Nat)=(3)))),Is (.bool (decide (((y.kind).toNat:Nat)=(3)))),Is (cond ((decide (((y.kind).toNat:Nat)=(3)))) (PQ f 2) undef),Is (cond ((decide (((y.kind).toNat:Nat)=(3)))) (AB y.old.1) undef),Is (cond ((decide (((y.kind).toNat:Nat)=(3)))) (.bool (Ag y.old)) undef),Is (cond ((decide (((y.kind).toNat:Nat)=(3)))) (.bool (!(Ag y.old))) undef),Is (cond ((decide (((y.kind).toNat:Nat)=(3)))) (.bool (!(Ag y.old))) undef),Is (cond ((decide (((y.kind).toNat:Nat)=(3)))&& !(!(Ag y.old))) (PQ f 1) undef),Is (cond ((decide (((y.kind).toNat:Nat)=(3)))&& !(!(Ag y.old))) (St (y.name)) undef),Is (cond ((decide (((y.kind).toNat:Nat)=(3)))&& !(!(Ag y.old))) (.bool (decide ((y.name:AgS)=(([]:AgS):AgS)))) undef),Is (cond ((decide (((y.kind).toNat:Nat)=(3)))&& !(!(Ag y.old))) (PQ f 34) undef),Is (cond ((decide (((y.kind).toNat:Nat)=(3)))&& !(!(Ag y.old))) (AB y.new.1) undef),Is (cond ((decide (((y.kind).toNat:Nat)=(3)))&& !(!(Ag y.old))) (.bool (Ag y.new)) undef),Is (cond ((decide (((y.kind).toNat:Nat)=(3)))&& !(!(Ag y.old))) (.bool ((decide ((y.name:AgS)=(([]:AgS):AgS)))==(Ag y.new))) undef),Is (cond ((decide (((y.kind).toNat:Nat)=(3)))) (.bool ((!(Ag y.old))||((decide ((y.name:AgS)=(([]:AgS):AgS)))==(Ag y.new)))) undef),Is (.bool ((decide (((y.kind).toNat:Nat)=(3)))&&((!(Ag y.old))||((decide ((y.name:AgS)=(([]:AgS):AgS)))==(Ag y.new))))),Is (.bool ((decide (((y.kind).toNat:Nat)=(3)))&&((!(Ag y.old))||((decide ((y.name:AgS)=(([]:AgS):AgS)))==(Ag y.new)))))] (by kernel_rfl) [23,24,25,26,27,28,29,30,31,32,33,34,35,36,37,38,39,40,3] (by kernel_rfl) (by kernel_rfl) (XM (S4 trivial)) ?z ?hQ1003
 case z=>
  refine⟨?_,?_,?_,?_,?_,?_,?_,?_,?_,?_,?_,?_,?_,?_,?_,?_,?_,?_,?_,trivial⟩
  ·refine AR rfl fun σ w1 hC h=> ?_;have g:σ 1=PQ f 0:=(AL (h 1 (by decide))).trans rfl;exact AaH N3 g ⟨AaI _,rfl⟩
  ·refine AR rfl fun σ w1 hC h=> ?_;have aa:=AL (h 23 (by decide));exact XZ u5 rfl aa (Ac (eb hC c) (Fc y)) ⟨AaI _,rfl⟩
  ·refine AR rfl fun σ w1 hC h=> ?_;have ab:=AL (h 24 (by decide));exact X0 (a:=((y.kind).toNat:Nat)) (b:=(3:Nat)) ab rfl (AH _ _ _ _) ⟨AaI _,rfl⟩
  ·refine AR rfl fun σ w1 hC h=> ?_;have ac:=AL (h 25 (by decide));exact AaP ac ⟨AaI _,rfl⟩
  ·refine A0 3 true 26 (G:=(decide (((y.kind).toNat:Nat)=(3)))) rfl rfl (fun x _ (h:x = .bool (decide (((y.kind).toNat:Nat)=(3))))=>gT h) (fun hu_ _=>Br hu_) fun hG σ w1 hC h=> ?_;have g:σ 1=PQ f 0:=(AL (h 1 (by decide))).trans rfl;exact AaH IY g ⟨AaI _,Bq hG⟩
  ·refine A0 3 true 26 (G:=(decide (((y.kind).toNat:Nat)=(3)))) rfl rfl (fun x _ (h:x = .bool (decide (((y.kind).toNat:Nat)=(3))))=>gT h) (fun hu_ _=>Br hu_) fun hG σ w1 hC h=> ?_;have ad:=AL (h 27 (by decide));exact X6 (AaV (eb hC c) (Ei y) (EI y) (Ai ad hG)) U7 rfl (Ar y.old.2) ⟨AaI _,Bq hG⟩
  ·refine A0 3 true 26 (G:=(decide (((y.kind).toNat:Nat)=(3)))) rfl rfl (fun x _ (h:x = .bool (decide (((y.kind).toNat:Nat)=(3))))=>gT h) (fun hu_ _=>Br hu_) fun hG σ w1 hC h=> ?_;have ae:=AL (h 28 (by decide));refine X4 Id (Ai ae hG) ((B0 _ y.old).mono ?_);rintro e w2 ⟨rfl,hx⟩;exact⟨_,rfl,hx,Bq hG⟩
  ·refine A0 3 true 26 (G:=(decide (((y.kind).toNat:Nat)=(3)))) rfl rfl (fun x _ (h:x = .bool (decide (((y.kind).toNat:Nat)=(3))))=>gT h) (fun hu_ _=>Br hu_) fun hG σ w1 hC h=> ?_;have af:=AL (h 29 (by decide));exact Yi (Ai af hG) ⟨AaI _,Bq hG⟩
  ·refine A0 3 true 26 (G:=(decide (((y.kind).toNat:Nat)=(3)))) rfl rfl (fun x _ (h:x = .bool (decide (((y.kind).toNat:Nat)=(3))))=>gT h) (fun hu_ _=>Br hu_) fun hG σ w1 hC h=> ?_;have ag:=AL (h 30 (by decide));exact AaP (Ai ag hG) ⟨AaI _,Bq hG⟩
  ·refine A0 8 false 31 (G:=(decide (((y.kind).toNat:Nat)=(3)))&& !(!(Ag y.old))) rfl rfl (fun x _ (h:x=cond ((decide (((y.kind).toNat:Nat)=(3)))) (.bool (!(Ag y.old))) undef)=>EU h) (fun hu_ _=>Br hu_) fun hG σ w1 hC h=> ?_;have g:σ 1=PQ f 0:=(AL (h 1 (by decide))).trans rfl;exact AaH N5 g ⟨AaI _,Bq hG⟩
  ·refine A0 8 false 31 (G:=(decide (((y.kind).toNat:Nat)=(3)))&& !(!(Ag y.old))) rfl rfl (fun x _ (h:x=cond ((decide (((y.kind).toNat:Nat)=(3)))) (.bool (!(Ag y.old))) undef)=>EU h) (fun hu_ _=>Br hu_) fun hG σ w1 hC h=> ?_;have ah:=AL (h 32 (by decide));exact XZ Eu rfl (Ai ah hG) (Ac (eb hC c) (Eh y)) ⟨AaI _,Bq hG⟩
  ·refine A0 8 false 31 (G:=(decide (((y.kind).toNat:Nat)=(3)))&& !(!(Ag y.old))) rfl rfl (fun x _ (h:x=cond ((decide (((y.kind).toNat:Nat)=(3)))) (.bool (!(Ag y.old))) undef)=>EU h) (fun hu_ _=>Br hu_) fun hG σ w1 hC h=> ?_;have ai:=AL (h 33 (by decide));exact YU (l:=y.name) (m:=([]:AgS)) (.inl rfl) (Ai ai hG) (vr (St (([]:AgS))) rfl) (decide ((y.name:AgS)=(([]:AgS):AgS))) rfl ⟨AaI _,Bq hG⟩
  ·refine A0 8 false 31 (G:=(decide (((y.kind).toNat:Nat)=(3)))&& !(!(Ag y.old))) rfl rfl (fun x _ (h:x=cond ((decide (((y.kind).toNat:Nat)=(3)))) (.bool (!(Ag y.old))) undef)=>EU h) (fun hu_ _=>Br hu_) fun hG σ w1 hC h=> ?_;have g:σ 1=PQ f 0:=(AL (h 1 (by decide))).trans rfl;exact AaH IZ g ⟨AaI _,Bq hG⟩
  ·refine A0 8 false 31 (G:=(decide (((y.kind).toNat:Nat)=(3)))&& !(!(Ag y.old))) rfl rfl (fun x _ (h:x=cond ((decide (((y.kind).toNat:Nat)=(3)))) (.bool (!(Ag y.old))) undef)=>EU h) (fun hu_ _=>Br hu_) fun hG σ w1 hC h=> ?_;have aj:=AL (h 35 (by decide));exact X6 (AaV (eb hC c) (CN y) (CX y) (Ai aj hG)) U7 rfl (Ar y.new.2) ⟨AaI _,Bq hG⟩
  ·refine A0 8 false 31 (G:=(decide (((y.kind).toNat:Nat)=(3)))&& !(!(Ag y.old))) rfl rfl (fun x _ (h:x=cond ((decide (((y.kind).toNat:Nat)=(3)))) (.bool (!(Ag y.old))) undef)=>EU h) (fun hu_ _=>Br hu_) fun hG σ w1 hC h=> ?_;have ak:=AL (h 36 (by decide));refine X4 Id (Ai ak hG) ((B0 _ y.new).mono ?_);rintro e w2 ⟨rfl,hx⟩;exact⟨_,rfl,hx,Bq hG⟩
  ·refine A0 8 false 31 (G:=(decide (((y.kind).toNat:Nat)=(3)))&& !(!(Ag y.old))) rfl rfl (fun x _ (h:x=cond ((decide (((y.kind).toNat:Nat)=(3)))) (.bool (!(Ag y.old))) undef)=>EU h) (fun hu_ _=>Br hu_) fun hG σ w1 hC h=> ?_;have al:=AL (h 34 (by decide));have am:=AL (h 37 (by decide));exact Aag (a:=decide ((y.name:AgS)=(([]:AgS):AgS))) (b:=Ag y.new) Th (Ai al hG) (Ai am hG) ⟨AaI _,Bq hG⟩
  ·refine A0 3 true 26 (G:=(decide (((y.kind).toNat:Nat)=(3)))) rfl rfl (fun x _ (h:x = .bool (decide (((y.kind).toNat:Nat)=(3))))=>gT h) (fun hu_ _=>Br hu_) fun hG σ w1 hC h=> ?_;have an:=AL (h 31 (by decide));have ao:=AL (h 38 (by decide));exact YH (Ai an hG) (vr (.bool (true)) rfl) (fun hA=>(Ai ao (FH hG (BP hA)))) ⟨AaI _,Bq hG⟩
  ·refine AR rfl fun σ w1 hC h=> ?_;have ap:=AL (h 26 (by decide));have aq:=AL (h 39 (by decide));exact YC ap (fun hA=>(Ai aq hA)) (vr (.bool (false)) rfl) ⟨AaI _,rfl⟩
  ·refine AR rfl fun σ w1 hC h=> ?_;have ar:=AL (h 40 (by decide));exact Aa1 ar ⟨AaI _,rfl⟩
 intro au a1 s he hf;obtain⟨-,-,-,-,-,-,-,-,-,-,-,-,-,-,-,-,-,-,k3,-⟩:=hf;obtain⟨T0,T1,T2,-⟩:=he.hold [(0, .agg (updC y).toArray),(1,PQ f 0),(2,NI 0)] ⟨rfl,rfl,rfl,trivial⟩ rfl;clear he;have hE:=hE.trans s;have c:=eb s c;have T3:au 3 = .bool ((decide (((y.kind).toNat:Nat)=(3)))&&((!(Ag y.old))||((decide ((y.name:AgS)=(([]:AgS):AgS)))==(Ag y.new)))):=k3;clear k3;refine XP ?_;refine cB ((decide (((y.kind).toNat:Nat)=(3)))&&((!(Ag y.old))||((decide ((y.name:AgS)=(([]:AgS):AgS)))==(Ag y.new)))) T3 (fun k=> ?_) fun k=> ?_
 ·have h2c:OI y=true:=k;refine AC rfl (vr (NI 1) rfl) ?_;exact⟨by unfold Bu;rw[if_neg (by rw[h0c];decide),if_neg (by rw[h1c];decide),if_pos h2c],hE⟩
 have h2c:OI y=false:=k;refine gS (AaH N5 T1 (gS (XZ Eu rfl rfl (Ac c (Eh y)) (gS (X4 Lg rfl ((Jp _ y.name hl).mono ?_))))));rintro e a4 ⟨rfl,t⟩;refine⟨_,rfl,?_⟩;have hE:=hE.trans t;have c:=eb t c;refine gS (Yi rfl (gO fun _=>Af (PQ f 0) rfl rfl (gT rfl) (fun hG43=>AaH N3 T1 ⟨rfl,rfl⟩) (Av (gO fun _=>Af (B8 (y.kind)) rfl rfl (gT rfl) (fun hG44=>XZ u5 rfl (Ai rfl hG44) (Ac c (Fc y)) ⟨rfl,rfl⟩) (Av (gO fun _=>Af (.bool (decide (((y.kind).toNat:Nat)≠(3)))) rfl rfl (gT rfl) (fun hG45=>X0 (a:=(((y.kind).toNat:Nat):Int)) (b:=((3:Nat):Int)) (Ai rfl hG45) rfl (Bc _ .u8 ((y.kind).toNat) (3)) ⟨rfl,rfl⟩) (Av (gO fun _=>Af (.bool (decide (((y.kind).toNat:Nat)≠(3)))) rfl rfl (gT rfl) (fun hG46=>AaP (Ai rfl hG46) ⟨rfl,rfl⟩) (Av (gO fun _=>Af (PQ f 1) rfl rfl (EU rfl) (fun hG47=>AaH N5 T1 ⟨rfl,rfl⟩) (Av (gO fun _=>Af (St (y.name)) rfl rfl (EU rfl) (fun hG48=>XZ Eu rfl (Ai rfl hG48) (Ac c (Eh y)) ⟨rfl,rfl⟩) (Av (gO fun _=>Af (.bool (decide ((y.name:AgS)≠(([]:AgS):AgS)))) rfl rfl (EU rfl) (fun hG49=>YU (l:=y.name) (m:=([]:AgS)) (.inr rfl) (Ai rfl hG49) rfl (decide ((y.name:AgS)≠(([]:AgS):AgS))) rfl ⟨rfl,rfl⟩) (Av (gO fun _=>DQ ((decide (((y.kind).toNat:Nat)≠(3)))||(decide ((y.name:AgS)≠(([]:AgS):AgS)))) rfl rfl (gT rfl) (fun hG50=>YH (Ai rfl hG50) rfl (fun hA=>(Ai rfl (FH hG50 (BP hA)))) ⟨rfl,rfl⟩) fun bb51 hbb52=>Av (gS (Yg rfl (fun hA=>(Ai rfl hA)) rfl fun bb53 hbb54=> ?_))))))))))))))))));refine cB (bb53) rfl (fun n=> ?_) fun n=> ?_
 ·subst hbb52 hbb54;have h3c:OJ y=true:=n;refine AC rfl (vr (NI 10) rfl) ?_;exact⟨by unfold Bu;rw[if_neg (by rw[h0c];decide),if_neg (by rw[h1c];decide),if_neg (by rw[h2c];decide),if_pos h3c],hE⟩
 subst hbb52 hbb54;have h3c:OJ y=false:=n;refine AC rfl (vr (NI 0) rfl) ?_;exact⟨by unfold Bu;rw[if_neg (by rw[h0c];decide),if_neg (by rw[h1c];decide),if_neg (by rw[h2c];decide),if_neg (by rw[h3c];decide)],hE⟩
theorem OL:∃i z,Tryz.prog.info? 94=some i/\i.size=33/\i.bytes=48/\i.zero=some z/\z.cells.size=33/\∀u∈z.cells.toList,u.oneCell' =true:=Te (by kernel_rfl)
section
variable {A X D R : List Abv} {i j : Nat}
theorem Vv(hA:A.length=i)(hX:X.length=33)(hD:D.length=j):((A++X++D++R).drop (i+33)).take j=D:=by
 rw[AbY,AeW (by rw[AbB,hA,hX]),AcK hD]
theorem OM(hA:A.length=i)(hD:D.length=j):((A++D++R).drop i).take j=D:=by rw[AbY,AeW hA,AcK hD]
theorem Ti{C:List Abv}{m:Nat}(hm:i<=m)(hC:C.take i=A):C.take m=A++(C.take m).drop i:=by rw[<-hC,show C.take i=(C.take m).take i by rw[List.take_take,Ad9 hm],AcV]
theorem Tj(hA:A.length=i)(hX:X.length=33){Y:List Abv}:(A++X++R).take i++Y++(A++X++R).drop (i+1*33)=A++Y++R:=by rw[AeW (by rw[AbB];omega),AbY A X R,AcK hA]
theorem MN{w:Abw}{a b:Nat}{v x:Abv}{lo' n' c' lo n c:Nat}(hv:SB a 33 lo' n' c' v)(hx:SB b 33 lo n c x)(hne:a≠b){A B:List Abv}{tA tB:AbC}(hA:w.heap[a]? =some (.cells A.toArray tA (0,0)))(hB:w.heap[b]? =some (.cells B.toArray tB (0,0)))(h0:B≠ []):
  (callFunc 195 #[v,x]).run Abx w = .ok (.value (.bool false)) w:=by
 rw[run_callFunc_extern (e:=Extern.SlicesOverlaps.overlaps #[31,31] #[4]) Tryz.func195 (by kernel_rfl) (by kernel_rfl) (by kernel_rfl) (by kernel_rfl),KO (e:=94) rfl (fun _=>by kernel_rfl) hv hx hne hA hB h0];rfl
theorem Rr(hA:A.length=i):(A++X++D++R).take i=A:=by rw[AbY,AbY,AcK hA]
theorem Lm(h:(A++D).length=i):(A++D++R).take i=A++D:=AcK h
end
theorem Py(w:Abw)(v:Abv)(g c i j:Nat)(A X D R:List Abv)(hA:A.length=i*33)(hX:X.length=33)(hD:D.length=j*33)(hv:SB g 33 0 (i+1+j) c v)(hCb:w.heap[g]? =some (.cells (A++X++D++R).toArray 94 (0,0)))(hL:(A++X++D++R).length=c*33)(hc:i+1+j<=c)(hm:c<=maxLen)(h1:∀u∈D,u.oneCell' =true):
  Calls Abx 155 #[v,NI i,NI (i+1)] w fun e w' =>∃R',e = .returned (.slice (some ⟨g,0,none⟩) (i+j) c)/\w'.heap[g]? =some (.cells (A++D++R').toArray 94 (0,0))/\(A++D++R').length=c*33/\w.grownBy w' (some g):=by
 obtain⟨ri,rz,ri1,ri2,ri3,ri4,ri5,ri6⟩:=OL;have hgr:w.grownBy w (some g):=⟨rfl,rfl,rfl,AbA _,fun _ _ _=>rfl⟩;have hgl:=(bl hCb);unfold maxLen at hm;refine gG (args:= [v,NI i,NI (i+1)]) Tryz.func155 rfl 33 rfl rfl ?_;have hE:=AaI w;refine gS (Y1 EB (Ym hv rfl) (gS (ZQ (l:=i) (r:=i+1) (m:=i+1+j) EB J1 (Ym hv rfl) rfl rfl rfl (by omega) (by omega) (by omega) fun y n=> ?_)));have n:SB g 33 (i) (i+1-(i)) (i+1+j-(i)) y:=(Abh n (by omega) (by omega) (by omega));refine gS (X0 (a:=(i:Nat)) (b:=(i+1:Nat)) rfl rfl (AH _ _ _ _) (kF (by omega) (cF rfl (gS (Y1 EB (Ym hv rfl) (gM0 [0,1,2,3,4,5,6,7] [6,7] [] fun z o=> ?_))))));have hgr:w.grownBy z (some g):=Aa hgr o.grown (fun _ e=>by cases e);refine yS (Yt EB J1 (a:=none) (b:=some _) (Ym hv rfl) (0) (i) (.inl ⟨rfl,rfl⟩) (.inr ⟨_,congrArg some rfl⟩) (by omega) (by omega) fun p f=> ?_);have f:SB g 33 (0) (i) (c) p:=(Abh f (by omega) (by omega) (by omega));refine yS (Yt EB J1 (a:=some _) (b:=none) (Ym hv rfl) (i+1) (i+1+j) (.inr ⟨_,congrArg some rfl⟩) (.inl ⟨rfl,rfl⟩) (by omega) (by omega) fun q h=> ?_);have h:SB g 33 (i+1) (j) (c-(i+1)) q:=(Abh h (by omega) (by omega) (by omega));have hCb:=eb o hCb;refine yC (ZR EB ri1 ri2 (Ym f (vr p rfl)) (by omega) hCb (SB.src (Ym h (vr q rfl)) (j*33) (if hj:j=0 then .inr (by omega)else .inl (by omega)) hCb (by rw[show(i+1)*33=i*33+33 by omega];exact Vv hA hX hD)) (hD) (h1) (by omega) (by rw[hL];omega) fun s aa ab af=> ?_);have hgr:w.grownBy s (some g):=Aa hgr ab (fun _ e=> .inl e);clear hE;clear hCb;refine Aed (⟨_,rfl⟩:∃T,T=(A++X++D++R).drop (i*33+j*33)) fun T hT=> ?_;have hLT:(A++D++T).length=c*33:=by rw[hT];simp only[AbB,AbV]at hL ⊢;omega
 have hCb:s.heap[g]? =some (.cells (A++D++T).toArray 94 (0,0)):=Ay aa (by rw[hT,Rr hA]);have ag:=bl hCb;have t:SB g 33 0 (i+j) (c) (AbM (some ⟨g,0,none⟩) (i+(j)) (c)):=(YZ _ _ _ _).eq rfl (by omega) rfl;refine yC (Aa1 rfl (gS (Y1 EB (Ym t rfl) (gS (Yt EB J1 (a:=some _) (b:=some _) (Ym t rfl) (i+j) (i+1+j) (.inr ⟨_,congrArg some rfl⟩) (.inr ⟨_,congrArg some rfl⟩) (by omega) (by omega) fun ac k=> ?_)))));have k:SB g 33 (i+j) (1) (c-(i+j)) ac:=(Abh k (by omega) (by omega) (by omega));refine gS (Z7 EB ri1 ri4 ri5 (Ym k rfl) (by omega) (by omega) hCb (Mb ri6 _) (by rw[hLT];omega) fun x Z29 hZ30 ad ae ah=> ?_);have hgr:w.grownBy x (some g):=Aa hgr ae (fun _ e=> .inl e);clear hCb;refine Aed (⟨_,rfl⟩:∃U,U=Z29++(A++D++T).drop ((i+j)*33+1*33)) fun U hU=> ?_;have hLU:(A++D++U).length=c*33:=by rw[hU];simp only[AbB,AbV]at hLT ⊢;omega
 have hCb:x.heap[g]? =some (.cells (A++D++U).toArray 94 (0,0)):=Ay ad (by rw[hU,Lm (by rw[AbB];omega),AbY (A++D)]);have ai:=bl hCb;refine AC rfl (vr (AbM (some ⟨g,0,none⟩) (i+(j)) (c)) rfl) ?_;exact⟨_,rfl,hCb,hLU,hgr⟩
theorem Pz(w:Abw)(v r:Abv)(g b c i j:Nat)(TX:AbC)(A X D R:List Abv)(hA:A.length=i*33)(hXl:X.length=33)(hD:D.length=j*33)(hv:SB g 33 0 (i+j) c v)(hCb:w.heap[g]? =some (.cells (A++D++R).toArray 94 (0,0)))(hL:(A++D++R).length=c*33)(hc:i+j<=c)(hm:c<=maxLen)(hj:0<j)(h1:∀u∈D,u.oneCell' =true)(hX1:∀u∈X,u.oneCell' =true) 
  (hv2:SB b 33 0 1 1 r) (hX:w.heap[b]? =some (.cells X.toArray TX (0,0))) (hne:b≠g) (hs:i+j<=1000):
  Calls Abx 156 #[v,NI i,r] w fun e w' =>∃g' c' R',e = .returned (.slice (some ⟨g',0,none⟩) (i+1+j) c')/\w'.heap[g']? =some (.cells (A++X++D++R').toArray 94 (0,0))/\(A++X++D++R').length=c' *33/\i+1+j<=c' /\c' <=2^63-1/\w.grownBy w' (some g)/\(g' =g\/w.heap.size<=g'):=by
 obtain⟨ri,rz,ri1,ri2,ri3,ri4,ri5,ri6⟩:=OL;have hgr:w.grownBy w (some g):=⟨rfl,rfl,rfl,AbA _,fun _ _ _=>rfl⟩;have hgl:=(bl hCb);have hbl:=(bl hX);unfold maxLen at hm;refine gG (args:= [v,NI i,r]) Tryz.func156 rfl 95 rfl rfl ?_;have hE:=AaI w;refine gS (Yt EB J1 (a:=some _) (b:=none) (Ym hv rfl) (i) (i+j) (.inr ⟨_,congrArg some rfl⟩) (.inl ⟨rfl,rfl⟩) (by omega) (by omega) fun v3 ah=> ?_);have ah:SB g 33 (i) (i+j-(i)) (c-(i)) v3:=(Abh ah (by omega) (by omega) (by omega));refine gS (Y1 EB (Ym hv2 rfl) (gS (X0 (a:=(1:Nat)) (b:=(0:Nat)) rfl rfl (AH _ _ _ _) (kF (by omega) (cF rfl (gS (Y1 EB (Ym hv rfl) ?_)))))));by_cases hroom:i+j+1<=c
 ·refine gS (X0 (a:=(i:Nat)) (b:=(i+j:Nat)) rfl rfl (AH _ _ _ _) (kF (by omega) (cF rfl (gS (X9 (xv:=NI (i+j)) (yv:=NI 1) rfl rfl rfl (AI _ _ _ (by omega)) (gS (ZD EB (Ym hv rfl) (gS (X0 (a:=((i+j)+(1):Nat)) (b:=(c:Nat)) rfl rfl (DL _ _ _ _) (kF (by omega) (cF rfl (gS (X9 (xv:=NI (i+j)) (yv:=NI 1) rfl rfl rfl (AI _ _ _ (by omega)) (gS (Yt EB J1 (a:=none) (b:=some _) (Ym hv rfl) (0) ((i+j)+(1)) (.inl ⟨rfl,rfl⟩) (.inr ⟨_,congrArg some rfl⟩) (by omega) (by omega) fun ai n=> ?_)))))))))))))));have n:SB g 33 (0) (i+1+j) (c) ai:=(Abh n (by omega) (by omega) (by omega));refine gS (X9 (xv:=NI i) (yv:=NI 1) rfl rfl rfl (AI _ _ _ (by omega)) (gS (Yt EB J1 (a:=some _) (b:=none) (Ym n rfl) ((i)+(1)) (i+1+j) (.inr ⟨_,congrArg some rfl⟩) (.inl ⟨rfl,rfl⟩) (by omega) (by omega) fun au s=> ?_)));have s:SB g 33 (i+1) (j) (c-(i+1)) au:=(Abh s (by omega) (by omega) (by omega));refine gS (Z6 rfl rfl (MN (Ym hv2 rfl) (Ym s rfl) hne hX hCb (by intro e;rw[e]at hL;simp at hL;omega)) (gS (Yi rfl (cT rfl (gM0 [0,1,2,3,4,5,6,7,8] [8] [] fun av t=> ?_)))));have hgr:w.grownBy av (some g):=Aa hgr t.grown (fun _ e=>by cases e);refine ys (X9 (xv:=NI i) (yv:=NI 1) rfl rfl rfl (AI _ _ _ (by omega)) zz) (yS (Yt EB J1 (a:=some _) (b:=none) (Ym n rfl) ((i)+(1)) (i+1+j) (.inr ⟨_,congrArg some rfl⟩) (.inl ⟨rfl,rfl⟩) (by omega) (by omega) fun aw x=> ?_));have x:SB g 33 (i+1) (j) (c-(i+1)) aw:=(Abh x (by omega) (by omega) (by omega));refine yS (Yt EB J1 (a:=some _) (b:=none) (Ym n rfl) (i) (i+1+j) (.inr ⟨_,congrArg some rfl⟩) (.inl ⟨rfl,rfl⟩) (by omega) (by omega) fun ax y=> ?_);have y:SB g 33 (i) (j+1) (c-i) ax:=(Abh y (by omega) (by omega) (by omega));have hCb:=eb t hCb;refine yC (Y3 EB J1 (Ym x rfl) (by omega) hCb (j) (SB.src (Ym y rfl) (j*33) (.inl (by omega)) hCb (OM hA hD)) (by simp only[Af2];split <;> omega) (hD) (h1) (by rw[hL];omega) fun aj ay ak a8=> ?_);have hgr:w.grownBy aj (some g):=Aa hgr ak (fun _ e=> .inl e);clear hE;clear hCb;refine Aed (⟨_,rfl⟩:∃T,T=(A++D++R).drop ((i+1)*33+j*33)) fun T hT=>(Aed (⟨_,rfl⟩:∃Y0,Y0=((A++D++R).take ((i+1)*33)).drop (i*33)) fun Y0 hY0=> ?_);have hY0l:Y0.length=33:=by rw[hY0,AbV,AbU,hL];omega
  have hLT:(A++Y0++(D++T)).length=c*33:=by rw[hT];simp only[AbB,AbV]at hL ⊢;omega
  have hCb:aj.heap[g]? =some (.cells (A++Y0++(D++T)).toArray 94 (0,0)):=Ay ay (by rw[hT,hY0,<-Ti (C:=A++D++R) (m:=(i+1)*33) (by omega) (by rw[AbY,AcK hA]),AbY]);have a9:=bl hCb;refine gS (Yt EB J1 (a:=some _) (b:=none) (Ym n rfl) (i) (i+1+j) (.inr ⟨_,congrArg some rfl⟩) (.inl ⟨rfl,rfl⟩) (by omega) (by omega) fun az z=> ?_);have z:SB g 33 (i) (j+1) (c-i) az:=(Abh z (by omega) (by omega) (by omega));have hX:=eb t hX;have hX:=kb ak hX (by omega);refine gS (Y3 EB J1 (Ym z rfl) (by omega) hCb (1) (SB.src (Ym hv2 rfl) 33 (.inl (by omega)) hX (by rw[Ad4,Ad0,Acb (by omega)])) (by simp only[Af2];split <;> omega) (by omega) (hX1) (by rw[hLT];omega) fun al a0 a1 ba=> ?_);have hgr:w.grownBy al (some g):=Aa hgr a1 (fun _ e=> .inl e);clear hCb;have hLF:(A++X++D++T).length=c*33:=by simp only[AbB]at hLT ⊢;omega
  have hCb:al.heap[g]? =some (.cells (A++X++D++T).toArray 94 (0,0)):=Ay a0 (by rw[Tj hA hY0l,AbY (A++X)]);have bb:=bl hCb;refine AC rfl (vr ai rfl) ?_;obtain⟨o,rfl,ho⟩:=n;obtain rfl:o=0:=by rw[ho (by omega),Ad4]
  exact⟨_,_,_,rfl,hCb,hLF,(by omega),(by omega),hgr, .inl rfl⟩
 refine gS (X0 (a:=(i:Nat)) (b:=(i+j:Nat)) rfl rfl (AH _ _ _ _) (kF (by omega) (cF rfl (gS (X9 (xv:=NI (i+j)) (yv:=NI 1) rfl rfl rfl (AI _ _ _ (by omega)) (gS (ZD EB (Ym hv rfl) (gS (X0 (a:=((i+j)+(1):Nat)) (b:=(c:Nat)) rfl rfl (DL _ _ _ _) (kT (by omega) (cT rfl (gS (Yt EB J1 (a:=none) (b:=some _) (Ym hv rfl) (0) (i) (.inl ⟨rfl,rfl⟩) (.inr ⟨_,congrArg some rfl⟩) (by omega) (by omega) fun am aa=> ?_)))))))))))));have aa:SB g 33 (0) (i) (c) am:=(Abh aa (by omega) (by omega) (by omega));refine gS (X9 (xv:=NI (i+j)) (yv:=NI 1) rfl rfl rfl (AI _ _ _ (by omega)) (gS (X9 (xv:=NI ((i+j)+(1))) (yv:=NI i) rfl rfl rfl (EY _ _ _ (by omega) (by omega)) (gS (Zm (m:=((i+j)+(1))-(i)) EB MM ri1 ri4 ri2 ri5 (by decide) (Ym aa (vr am rfl)) (by omega) hCb (vr (NI (((i+j)+(1))-(i))) rfl) (by omega) (by omega) (by rw[hL];omega) (by rw[ri3];omega) (by unfold maxLen;omega) fun h ab l Z54 ac hm56 hm57 hZ58 f p bc=> ?_)))));have hgr:w.grownBy ab (some g):=Aa hgr p.grown (fun _ e=>by cases e);have f:ab.heap[h]? =some (.cells (A++Z54).toArray 94 (0,0)):=Ay f (by rw[AbY,AcK hA]);have bd:h<ab.heap.size:=by omega
 have an:SB h 33 0 (i+1+j) (l) (AbM (some ⟨h,0,none⟩) (i+(((i+j)+(1))-(i))) l):=(YZ _ _ _ _).eq rfl (by omega) rfl;unfold maxLen at hm56;refine gS (Yt EB J1 (a:=some _) (b:=none) (Ym an rfl) (i) (i+1+j) (.inr ⟨_,congrArg some rfl⟩) (.inl ⟨rfl,rfl⟩) (by omega) (by omega) fun a2 ad=> ?_);have ad:SB h 33 (i) (j+1) (l-i) a2:=(Abh ad (by omega) (by omega) (by omega));have be:=AN (bl hX) ac;have hX:=eb p hX;refine gS (Y3 EB J1 (Ym ad rfl) (by omega) f (1) (SB.src (Ym hv2 rfl) 33 (.inl (by omega)) hX (by rw[Ad4,Ad0,Acb (by omega)])) (by simp only[Af2];split <;> omega) (by omega) (hX1) (by rw[AbB,hA,hZ58];omega) fun ao a3 ae bf=> ?_);have hgr:w.grownBy ao (some g):=Aa hgr ae (fun _ e=> .inr (by cases e;omega));clear f;refine Aed (⟨_,rfl⟩:∃T,T=(A++Z54).drop (i*33+1*33)) fun T hT=> ?_;have hLT:(A++X++T).length=l*33:=by rw[hT];simp only[AbB,AbV];omega
 have f:ao.heap[h]? =some (.cells (A++X++T).toArray 94 (0,0)):=Ay a3 (by rw[hT,AcK hA]);have bg:=bl f;refine gM0 [0,1,2,3,4,5,6,7,8] [8] [] fun a4 q=> ?_;have hgr:w.grownBy a4 (some g):=Aa hgr q.grown (fun _ e=>by cases e);refine ys (X9 (xv:=NI i) (yv:=NI 1) rfl rfl rfl (AI _ _ _ (by omega)) zz) (yS (Yt EB J1 (a:=some _) (b:=none) (Ym an rfl) ((i)+(1)) (i+1+j) (.inr ⟨_,congrArg some rfl⟩) (.inl ⟨rfl,rfl⟩) (by omega) (by omega) fun a5 af=> ?_));have af:SB h 33 (i+1) (j) (l-(i+1)) a5:=(Abh af (by omega) (by omega) (by omega));refine yS (Yt EB J1 (a:=some _) (b:=none) (Ym hv rfl) (i) (i+j) (.inr ⟨_,congrArg some rfl⟩) (.inl ⟨rfl,rfl⟩) (by omega) (by omega) fun a6 ag=> ?_);have ag:SB g 33 (i) (j) (c-i) a6:=(Abh ag (by omega) (by omega) (by omega));have bh:=AN (bl hCb) ac;have hCb:=eb p hCb;have hCb:=kb ae hCb (by omega);have hCb:=eb q hCb;have f:=eb q f;refine yC (Y3 EB J1 (Ym af rfl) (by omega) f (j) (SB.src (Ym ag rfl) (j*33) (.inl (by omega)) hCb (OM hA hD)) (by simp only[Af2];split <;> omega) (hD) (h1) (by rw[hLT];omega) fun ap a7 aq bi=> ?_);have hgr:w.grownBy ap (some g):=Aa hgr aq (fun _ e=> .inr (by cases e;omega));clear f;refine Aed (⟨_,rfl⟩:∃U,U=(A++X++T).drop ((i+1)*33+j*33)) fun U hU=> ?_;have hLU:(A++X++D++U).length=l*33:=by rw[hU];simp only[AbB,AbV]at hLT ⊢;omega
 have f:ap.heap[h]? =some (.cells (A++X++D++U).toArray 94 (0,0)):=Ay a7 (by rw[hU,Lm (by rw[AbB];omega)]);have bj:=bl f;refine AC rfl (vr (AbM (some ⟨h,0,none⟩) (i+(((i+j)+(1))-(i))) l) rfl) ?_;have hE:=hE.trans p;have hE:=Ad hE ae (Abz (AbA _) (by omega));have hE:=hE.trans q;have hE:=Ad hE aq (Abz (AbA _) (by omega));exact⟨_,_,_,(congrArg (fun k:Nat=>AcZ (AbM (some ⟨h,0,none⟩) k l)) (show i+(i+j+1-i)=i+1+j by omega)),f,hLU,(by omega),(by omega),hgr, .inr (Afy ac)⟩
theorem PA(w0 w:Abw)(v c:Abv)(l:List AF)(x:AF)(f:Ext w0 w)(ho:OG w0.heap.size 94 33 nmdC w v l)(g:RG 33 nmdC w c [x])(hl:l.length<=1000):
  Calls Abx 156 #[v,NI l.length,c] w fun e w' =>∃v',e = .returned v' /\OG w0.heap.size 94 33 nmdC w' v' (l++ [x])/\Ext w0 w' :=by
 refine gG (args:= [v,NI l.length,c]) Tryz.func156 rfl 95 rfl rfl ?_;have hE:=AaI w;refine gS (Zd EB J1 rfl (X1 ho) rfl (AbA _) fun n j ha5=>(gS (Yb EB (Ya g rfl) (gS (X0 (a:=(([x]).length:Nat)) (b:=(0:Nat)) rfl rfl (AH _ _ _ _) (kF (by simp) (cF rfl (gS (Yb EB (Ya (X1 ho) rfl) (gS (X0 (a:=(l.length:Nat)) (b:=(l.length:Nat)) rfl rfl (AH _ _ _ _) (kT (rfl) (cT rfl (gS (Yw _ _ w0.heap.size _ 48 EB wr30_ig94.choose_spec.1 wr30_ig94.choose_spec.2 EB (l) ([x]) (YR ho (vr v rfl)) (Ya g (vr c rfl)) (fun _ _=>DF) (by simp only[AbN,AbR];omega) (by simp only[AbN,AbR];omega) f.size fun i k m h=> ?_)))))))))))))));have h:Grew w k v i:=h;clear g;clear hE;have f:=Bp f h ho.2 (AbA _);clear j;clear ho;refine AC rfl (vr i rfl) ?_;exact⟨_,rfl,m,f⟩
section
variable {α : Type} {b k g c : Nat} {t : AbC} {enc : α -> List Abv} {w : Abw} {v : Abv} {l : List α} {R : List Abv}
theorem OG.row(h:OG b t k enc w v l)(h0:0<l.length):∃g c R,v = .slice (some ⟨g,0,none⟩) l.length c/\b<=g/\w.heap[g]? =some (.cells (l.flatMap enc++R).toArray t (0,0))/\(l.flatMap enc++R).length=c*k/\l.length<=c/\c<=maxLen:=by
 obtain⟨-,hx,⟨-,h1⟩ | ⟨g,c,cur,rfl,hb,hg,hn,hm,hs,ht⟩⟩:=h
 ·omega
 ·refine⟨g,c,cur.toList.drop (l.length*k),rfl,hb,?_,?_,hn,hm⟩
  ·rw[<-ht,AcV];exact hg
  ·rw[<-ht,AcV,Ac2,hs]
theorem Zi(hl:∀x∈l,(enc x).length=k)(hb:b<=g)(hg:w.heap[g]? =some (.cells (l.flatMap enc++R).toArray t (0,0)))(hL:(l.flatMap enc++R).length=c*k)(hn:l.length<=c)(hm:c<=maxLen):OG b t k enc w (.slice (some ⟨g,0,none⟩) l.length c) l:=
 ⟨hl,Hb hl, .inr ⟨g,c,_,rfl,hb,hg,hn,hm,by rw[Ab8,hL],by rw[List.toList_toArray,AcK (Hb hl)]⟩⟩
theorem MO(d:α){p:Nat}(hp:p<l.length):l.flatMap enc=(l.take p).flatMap enc++enc (l.getD p d)++(l.drop (p+1)).flatMap enc:=by
 conv=>lhs;rw[<-AcV p l,Adw hp]
 rw[Ac3,Aco,<-AbY,AbD,AbJ hp];rfl
end
section
variable {P : AbQ} {K : Abv -> Abw -> Prop} {ρ : Ah} {w : Abw} {d : Option Tmp} {ty : AbC} {pos : String} {af : Array Acn} {gd : Option (Nat × Bool)} {α : Type} {t : AbC}
theorem Aau{k:Nat}{enc:α->List Abv}{e:AbC}{x:AbG}{a:α}(hx:Ab ρ x = .agg (enc a).toArray)(hl:(enc a).length=k) 
  (hr:∀(cs:Array Abv),cs.size=k->∀w:Abw,(Ab4 t 1 #[(0, .agg cs)]).run P w = .ok (.slice (some ⟨w.heap.size,0,none⟩) 1 1) (w.alloc (.cells cs e)))
  (hk:∀b w',w.heap.size=b->w'.heap[b]? =some (.cells (enc a).toArray e (0,0))->Ext w w' ->w'.heap.size=w.heap.size+1->K (.slice (some ⟨b,0,none⟩) 1 1) w'):Yk P K ((execOp (Ab ρ) ⟨d, .buildSlice t 1 #[(0,x)],ty,pos,af,gd⟩).run P w):=by
 have hE:Ext w (w.alloc (.cells (enc a).toArray e)):=(Acr _ _).alloc (AbA _) _;refine AaO (v:= .slice (some ⟨w.heap.size,0,none⟩) 1 1) (w' :=w.alloc (.cells (enc a).toArray e)) ?_ (hk _ _ rfl (heap_alloc_new w _) hE (by simp));unfold execOp;simp only[AbL,AbO,AbS,hx,AbF,hr _ (show(enc a).toArray.size=k by rw[Ab8];exact hl),AbE,AbH]
theorem Rs{l:List α}{p:Nat}{x:α}(hp:p<l.length):l.set p x=l.take p++x :: l.drop (p+1):=by rw[List.set_eq_take_append_cons_drop,if_pos hp]
theorem Zx{b:Nat}{t' e:AbC}{v:Abv}{l:List AF}{g p:Nat}{i:B5}{x y:AbG}(hx:Ab ρ x=PQ g (p*33+1))(hy:Ab ρ y = .agg (Aby i.1).toArray)(h:OG b e 33 nmdC w v l)(hg:v.ownBlock=some g)(hp:p<l.length)(hinfo:(P.info? t').map (·.size)=some 32) 
  (hk:∀w',OG b e 33 nmdC w' v (l.set p ⟨(l.getD p dNmd).name,i⟩)->Grew w w' v v->K undef w'):Yk P K ((execOp (Ab ρ) ⟨d, .store t' x y,ty,pos,af,gd⟩).run P w):=by
 obtain⟨g',c,R,rfl,hb,hC,hL,hc,hm⟩:=h.row (by omega);obtain rfl:g' =g:=by simpa [Acf] using hg
 have h1:=i.2;have h2:=(l.getD p dNmd).id.2;have a:l.flatMap nmdC++R=((l.take p).flatMap nmdC++ [St (l.getD p dNmd).name])++Aby (l.getD p dNmd).id.1++((l.drop (p+1)).flatMap nmdC++R):=by
  rw[MO dNmd hp];simp[nmdC]
 have f:((l.set p ⟨(l.getD p dNmd).name,i⟩).flatMap nmdC)++R=((l.take p).flatMap nmdC++ [St (l.getD p dNmd).name])++Aby i.1++((l.drop (p+1)).flatMap nmdC++R):=by
  rw[Rs hp,Ac3,Aco];simp[nmdC]
 have hn:((l.take p).flatMap nmdC).length=p*33:=by rw[Hb (fun x _=>BC x),AbU];congr 1;omega
 rw[a]at hC;refine Yz hx hy hC (by rw[AbB,hn];rfl) (by rw[AbK,AbK,h1,h2]) (by rw[AbK,h1];exact hinfo) (Aw _) fun w' k1 k2 _=>hk w' ?_ ⟨k2,fun k hk=> .inl hk⟩;rw[<-f]at k1;rw[show l.length=(l.set p (⟨(l.getD p dNmd).name,i⟩:AF)).length by rw[AdB]];refine Zi (fun x _=>BC x) hb k1 ?_ (by rw[AdB];exact hc) hm;rw[<-hL,a,f];simp only[AbB,AbK,h1,h2]
end
theorem MP{l:List AF}:∀u∈l.flatMap nmdC,u.oneCell' =true:=fun u hu=>by
 obtain⟨x,-,hx⟩:=List.mem_flatMap.1 hu;exact DF u hx
theorem nmds_len(l:List AF):(l.flatMap nmdC).length=l.length*33:=Hb (fun x _=>BC x)
theorem Rt(w0 w:Abw)(v:Abv)(l:List AF)(p:Nat)(hE:Ext w0 w)(h:OG w0.heap.size 94 33 nmdC w v l)(hp:p<l.length):
  Calls Abx 155 #[v,NI p,NI (p+1)] w fun e w' =>∃v',e = .returned v' /\OG w0.heap.size 94 33 nmdC w' v' (l.eraseIdx p)/\Ext w0 w' :=by
 obtain⟨g,c,R,rfl,hb,hC,hL,hc,hm⟩:=h.row (by omega);have hl:l.length=p+1+(l.length-(p+1)):=by omega
 rw[MO dNmd hp]at hC hL;refine Calls.mono (Py w _ g c p (l.length-(p+1)) _ _ _ R (by rw[nmds_len,AbU];omega) (BC _) (by rw[nmds_len,AbV]) ((YZ _ _ _ _).eq rfl hl rfl) hC hL (by omega) hm MP) fun e w' ⟨R',f,a,b,i⟩=> ?_;rw[<-Ac3,<-List.eraseIdx_eq_take_drop_succ]at a b;have hle:(l.eraseIdx p).length=p+(l.length-(p+1)):=by rw[List.length_eraseIdx_of_lt hp];omega
 refine⟨_,f,?_,Ad hE i hb⟩;rw[<-hle];exact Zi (fun x _=>BC x) hb a b (by omega) hm
theorem Ru(w0 w:Abw)(v f:Abv)(l:List AF)(p b:Nat)(x:AF)(TX:AbC)(hE:Ext w0 w)(h:OG w0.heap.size 94 33 nmdC w v l)(hp:p<=l.length)(hl:l.length<=1000) 
  (hv2:f = .slice (some ⟨b,0,none⟩) 1 1) (hX:w.heap[b]? =some (.cells (nmdC x).toArray TX (0,0))) (hne:v.ownBlock≠some b):
  Calls Abx 156 #[v,NI p,f] w fun e w' =>∃v',e = .returned v' /\OG w0.heap.size 94 33 nmdC w' v' (l.take p++x :: l.drop p)/\Ext w0 w' :=by
 subst hv2;by_cases hpe:p=l.length
 ·subst hpe;rw[List.take_length,List.drop_length];exact PA w0 w v _ l x hE h (Zt (BC x) hX) hl
 ·obtain⟨g,c,R,rfl,hb,hC,hL,hc,hm⟩:=h.row (by omega);have k:l.flatMap nmdC=(l.take p).flatMap nmdC++(l.drop p).flatMap nmdC:=by rw[<-Ac3,AcV]
  rw[k]at hC hL;refine Calls.mono (Pz w _ _ g b c p (l.length-p) TX _ (nmdC x) _ R (by rw[nmds_len,AbU];omega) (BC x) (by rw[nmds_len,AbV]) ((YZ _ _ _ _).eq rfl (by omega) rfl) hC hL (by omega) hm (by omega) MP DF (YZ _ _ _ _) hX (fun e=>hne (by rw[e];rfl)) (by omega)) fun e w' ⟨g',c',R',m,i,j,r,n,o,a⟩=> ?_;have q:(l.take p).flatMap nmdC++nmdC x++(l.drop p).flatMap nmdC=(l.take p++x :: l.drop p).flatMap nmdC:=by rw[Ac3,Aco,AbY]
  rw[q]at i j;have hle:(l.take p++x :: l.drop p).length=p+1+(l.length-p):=by rw[AbB,AbN,AbU,AbV];omega
  refine⟨_,m,?_,Ad hE o hb⟩;rw[<-hle];refine Zi (fun x _=>BC x) ?_ i j (by omega) n;rcases a with rfl | a
  ·exact hb
  ·exact Abz hE.size a
def CA(l:List AF)(p:Nat)(y:Ax):Nat × List AF:=
 if(if BG l y.name p=true then(l.getD p dNmd).id else zid).1≠y.old.1 then(15,[])
 else if Ag y.new=true then(if BG l y.name p=true then(0,l.eraseIdx p)else(0,l))
 else if BG l y.name p=true then(0,l.set p ⟨(l.getD p dNmd).name,y.new⟩)
 else if 64<=l.length then(3,[])else(0,l.take p++⟨y.name,y.new⟩ :: l.drop p)
def Bx(l:List AF)(s:AgS):Nat:=(l.takeWhile fun n=>decide (n.name<s)).length
theorem C0:∀ {l:List AF} {s:AgS} {p:Nat},II l s p->p=Bx l s
 | [],s,p,h=>by have:=h.1;simp at this;subst this;rfl
 | a :: l,s,p,h=>by
  by_cases ha:a.name<s
  ·cases p with
   | zero=>exact absurd ha (h.2.2 0 (AbA _) (by simp))
   | succ p=>
    have hp:=h.1;have ih:p=Bx l s:=C0 ⟨by simpa using hp,fun j hj=>h.2.1 (j+1) (by omega),fun j hj hl=>h.2.2 (j+1) (by omega) (by simpa using hl)⟩;unfold Bx at ih ⊢;rw[Ad5,if_pos (by simpa using ha),AbN,<-ih]
  ·cases p with
   | zero=>unfold Bx;rw[Ad5,if_neg (by simpa using ha)];rfl
   | succ p=>exact absurd (h.2.1 0 (by omega)) ha
def Al(l:List AF)(y:Ax):Nat × List AF:=CA l (Bx l y.name) y
theorem Jq{l:List AF}{s:Bs}{p:Nat}(h:BG l s p=true):p<l.length:=by
 unfold BG at h;simp only[Bool.and_eq_true,decide_eq_true_eq]at h;exact h.1
theorem J7{l:List AF}{p:Nat}{y:Ax}(hf:BG l y.name p=true):CA l p y=if(l.getD p dNmd).id.1≠y.old.1 then(15,[])else if Ag y.new=true then(0,l.eraseIdx p)else(0,l.set p ⟨(l.getD p dNmd).name,y.new⟩):=by unfold CA;rw[hf];rfl
theorem IJ{l:List AF}{p:Nat}{y:Ax}(hf:BG l y.name p=false):CA l p y=if AcB 32 0≠y.old.1 then(15,[])else if Ag y.new=true then(0,l)else if 64<=l.length then(3,[])else(0,l.take p++⟨y.name,y.new⟩ :: l.drop p):=by unfold CA;rw[hf];rfl
theorem PB:Plain Abx 154:=fun _ _=>by kernel_rfl
theorem Ln{d:Option Tmp}{ty:AbC}{pos:String}{af:Array Acn}{gd:Option (Nat × Bool)}(σ:AbG->Abv)(w:Abw):(execOp σ ⟨d, .alloc 33,ty,pos,af,gd⟩).run Abx w = .ok (.value (PQ w.heap.size 0)) (w.alloc (.cells (Aby (AcB 32 0)).toArray 33)):=by kernel_rfl
theorem Lo:Plain Abx 36:=fun _ _=>by kernel_rfl
theorem PC:Plain Abx 155:=fun _ _=>by kernel_rfl
theorem KP(z0:ByteArray)(c1_0 c1_1 c1_2 c1_3 c1_4 c1_5 c1_6 c1_7 c1_8 c1_9 c1_10 c1_11 c1_12 c1_13 c1_14 c1_15 c1_16 c1_17 c1_18 c1_19 c1_20 c1_21 c1_22 c1_23 c1_24 c1_25 c1_26 c1_27 c1_28 c1_29 c1_30 c1_31:Abv)(w:Abw):(Acy 94 #[(0, .string z0),(1, .agg #[c1_0,c1_1,c1_2,c1_3,c1_4,c1_5,c1_6,c1_7,c1_8,c1_9,c1_10,c1_11,c1_12,c1_13,c1_14,c1_15,c1_16,c1_17,c1_18,c1_19,c1_20,c1_21,c1_22,c1_23,c1_24,c1_25,c1_26,c1_27,c1_28,c1_29,c1_30,c1_31])]).run Abx w = .ok (.agg #[.string z0,c1_0,c1_1,c1_2,c1_3,c1_4,c1_5,c1_6,c1_7,c1_8,c1_9,c1_10,c1_11,c1_12,c1_13,c1_14,c1_15,c1_16,c1_17,c1_18,c1_19,c1_20,c1_21,c1_22,c1_23,c1_24,c1_25,c1_26,c1_27,c1_28,c1_29,c1_30,c1_31]) w:=by kernel_rfl
theorem Mc(z0:AgS)(z1:B5)(w:Abw):(Acy 94 #[(0,St z0),(1,AB z1.1)]).run Abx w = .ok (.agg (St (z0) :: (Aby z1.1)).toArray) w:=by
 obtain⟨z1,k1⟩:=z1;obtain⟨a1_0,a1_1,a1_2,a1_3,a1_4,a1_5,a1_6,a1_7,a1_8,a1_9,a1_10,a1_11,a1_12,a1_13,a1_14,a1_15,a1_16,a1_17,a1_18,a1_19,a1_20,a1_21,a1_22,a1_23,a1_24,a1_25,a1_26,a1_27,a1_28,a1_29,a1_30,a1_31,rfl⟩:=JL k1;exact KP _ _ _ _ _ _ _ _ _ _ _ _ _ _ _ _ _ _ _ _ _ _ _ _ _ _ _ _ _ _ _ _ _ w
theorem Rv(c0 c1 c2 c3 c4 c5 c6 c7 c8 c9 c10 c11 c12 c13 c14 c15 c16 c17 c18 c19 c20 c21 c22 c23 c24 c25 c26 c27 c28 c29 c30 c31 c32:Abv)(w:Abw):(Ab4 31 1 #[(0, .agg #[c0,c1,c2,c3,c4,c5,c6,c7,c8,c9,c10,c11,c12,c13,c14,c15,c16,c17,c18,c19,c20,c21,c22,c23,c24,c25,c26,c27,c28,c29,c30,c31,c32])]).run Abx w = .ok (.slice (some ⟨w.heap.size,0,none⟩) 1 1) (w.alloc (.cells #[c0,c1,c2,c3,c4,c5,c6,c7,c8,c9,c10,c11,c12,c13,c14,c15,c16,c17,c18,c19,c20,c21,c22,c23,c24,c25,c26,c27,c28,c29,c30,c31,c32] 94)):=by kernel_rfl
theorem Rw:∀(cs:Array Abv),cs.size=33->∀w:Abw,(Ab4 31 1 #[(0, .agg cs)]).run Abx w = .ok (.slice (some ⟨w.heap.size,0,none⟩) 1 1) (w.alloc (.cells cs 94))
 | ⟨c0 :: c1 :: c2 :: c3 :: c4 :: c5 :: c6 :: c7 :: c8 :: c9 :: c10 :: c11 :: c12 :: c13 :: c14 :: c15 :: c16 :: c17 :: c18 :: c19 :: c20 :: c21 :: c22 :: c23 :: c24 :: c25 :: c26 :: c27 :: c28 :: c29 :: c30 :: c31 :: c32 :: []⟩,_,w=>Rv c0 c1 c2 c3 c4 c5 c6 c7 c8 c9 c10 c11 c12 c13 c14 c15 c16 c17 c18 c19 c20 c21 c22 c23 c24 c25 c26 c27 c28 c29 c30 c31 c32 w
theorem PD:Plain Abx 156:=fun _ _=>by kernel_rfl
theorem J8(w:Abw)(v:Abv)(l:List AF)(hr:RG 33 nmdC w v l)(hl:l.length<=1000)(hs:Ds l)(y:Ax):
  Calls Abx 131 #[v, .agg (updC y).toArray] w fun e w' =>∃v',e = .returned (.tuple #[v',NI (Al l y).1])/\OG w.heap.size 94 33 nmdC w' v' (Al l y).2/\Ext w w' :=by
 refine FV (args:= [v, .agg (updC y).toArray]) Tryz.func131 rfl 68 rfl rfl ?_;have hE:=AaI w;refine gS (AaY (vr (.agg (updC y).toArray) rfl) fun n2 w3 b0 ax bg b1=> ?_);have c:=ax;clear ax;have b2:n2<w3.heap.size:=by omega
 have hE:=hE.trans bg;refine gS (AaH N5 rfl (gS (XZ Eu rfl rfl (Ac c (Eh y)) (gS (X5 PB rfl rfl ((Rq _ v l (hr.keep hE) hl hs y.name).mono ?_))))));rintro e ay ⟨⟨p,rfl,hp⟩,ac⟩;refine⟨_,rfl,?_⟩;refine gS (AaK (vs:= [NI p, .bool (BG l y.name p)]) rfl rfl (gS (AaK (vs:= [NI p, .bool (BG l y.name p)]) rfl rfl ?_)));by_cases hf:BG l y.name p=true
 ·have hlt:p<l.length:=Jq hf;refine gS (Aa4 (v:=AB (AcB 32 0)) (by kernel_rfl) (gS (AaQ Ln fun ad bh b3 az a0 b4=> ?_)));have f:=AaI ay;have hE:=hE.trans ac;have ah:=hE.size;have h:=az;clear az;have b5:ad<bh.heap.size:=by omega
  refine gS (Ye (vr (PQ ad 0) rfl) (vr (AB (AcB 32 0)) rfl) h (by exact DP Ach Ach) (by exact Ar Ach) (Aw _) fun bi a1 a2 b6=> ?_);clear h;have h:=a1;clear a1;have b7:=bl h;refine cT (vr (.bool (true)) ((show _=Ac5 (BG l y.name p)from rfl).trans (congrArg Ac5 hf))) ?_;have hE:=hE.trans a0;have hE:=Ad hE a2 (Abz ah (by omega));have b8:(nmdC (l.getD (p) dNmd)).length=33:=(AaW (hr.keep hE) dNmd (by omega));refine gS (Yn EB J1 (by decide) dNmd (Ya (hr.keep hE) rfl) rfl (by omega) fun b9 a3=> ?_);have u:(Aby (l.getD (p) dNmd).id.1).length=32:=by rw[AbK,(l.getD (p) dNmd).id.2]
  refine gS (Y5 (n:=32) N0 (Ys a3 rfl) fun bj ae=> ?_);have ae:PR (Aby (l.getD (p) dNmd).id.1) bj bi:=(JS (l.getD (p) dNmd))▸ae;refine gS (X6 (Ys ae rfl) U7 rfl (by rw[u];exact QY) (gS (Ye (vr (PQ ad 0) rfl) (vr (AB ((l.getD (p) dNmd).id.1)) rfl) h (by exact DP (Ek (u)) Ach) (by exact Ar (Ek (u))) (Aw _) fun a4 a5 ai ca=> ?_)));clear a3;clear ae;clear h;have h:=a5;clear a5;have cb:=bl h;have f:=f.trans a0;have f:=Ad f a2 (Abz (AbA _) (by omega));have f:=Ad f ai (Abz (AbA _) (by omega));have c:=eb (ac.trans f) c;refine gS (Yx rfl h U7 rfl (by exact Ar (Ek (u))) (gS (AaH IY rfl (gS (X6 (AaV c (Ei y) (EI y) rfl) U7 rfl (Ar y.old.2) (gS (Zg (l1:=((l.getD (p) dNmd).id.1)) (l2:=y.old.1) U7 u5 Ph Q9 rfl rfl ((Ek (u))) (y.old.2) ?_)))))));refine cD rfl (fun r=> ?_) fun r=> ?_
  ·have hmv:=r;refine DC rfl (vr (AbM none 0 0) rfl) (vr (NI 15) rfl) ?_;have hT:CA l p y=(15,[]):=by rw[J7 hf,if_pos hmv]
   rw[show CA l p y=Al l y by unfold Al;rw[<-C0 hp]]at hT;have hE:=Ad hE ai (Abz ah (by omega));exact⟨_,by rw[hT],by rw[hT];exact(AaT _ _ _ _ _),hE⟩
  have hmv:=r;have q:=AaI a4;have hE:=Ad hE ai (Abz ah (by omega));have bk:=hE;have bm:=f;have aj:=hE.size;refine gS (X4 Lo rfl ((Df _ v l (hr.keep hE) (by omega)).mono ?_));rintro e cc ⟨af,rfl,j,ak⟩;refine⟨_,rfl,?_⟩;have bn:OB af n2:=Ba j.2 (bl c);have bo:OB af ad:=Ba j.2 (bl h);have c:=eb ak c;refine gS (AaH IZ rfl (gS (X6 (AaV c (CN y) (CX y) rfl) U7 rfl (Ar y.new.2) (gS (X4 Id rfl ((B0 _ y.new).mono ?_))))));rintro e cd ⟨rfl,x⟩;refine⟨_,rfl,?_⟩;refine gO fun _=>Af (.bool (true)) rfl rfl (gT rfl) (fun hG63=>AaP (vr (.bool (true)) ((show _=Ac5 (BG l y.name p)from rfl).trans (congrArg Ac5 hf))) ⟨rfl,rfl⟩) (Av (gS (Yg rfl (fun hA=>(Ai rfl hA)) rfl fun bb64 hbb65=> ?_)));refine cB (bb64) rfl (fun s=> ?_) fun s=> ?_
  ·subst hbb65;have hz:Ag y.new=true:=by simpa using s
   have hZ1:=ak.trans x;have q:=q.trans hZ1;have j:=j.keep x;refine gS (X9 (xv:=NI p) (yv:=NI 1) rfl rfl rfl (AI _ _ _ (by omega)) (gS (Yc PC rfl rfl rfl ((Rt a4 _ af l p q j hlt).mono ?_))));rintro e ce ⟨bp,rfl,bq,al⟩;refine⟨_,rfl,?_⟩;have hE:=hE.trans hZ1;have hE:=bk.trans al;clear c;have a6:=f.size;have f:=f.trans hZ1;have f:=bm.trans al;clear h;have q:=al;clear j;refine DC rfl (vr bp rfl) (vr (NI 0) rfl) ?_;have hT:CA l p y=(0,l.eraseIdx p):=by rw[J7 hf,if_neg hmv,if_pos hz]
   rw[show CA l p y=Al l y by unfold Al;rw[<-C0 hp]]at hT;exact⟨_,by rw[hT],by rw[hT];exact(AaS bq aj),hE⟩
  subst hbb65;have hz:Ag y.new=false:=by simpa using s
  have c:=eb x c;refine gS (AaH IZ rfl (gS (X6 (AaV c (CN y) (CX y) rfl) U7 rfl (Ar y.new.2) (gS (X4 Id rfl ((B0 _ y.new).mono ?_))))));rintro e cf ⟨rfl,am⟩;refine⟨_,rfl,?_⟩;refine cF ((rfl).trans (congrArg Ac5 (hz))) ?_;have j:=j.keep (x.trans am);obtain⟨g,hg⟩:=OG.block j hlt;have c:=eb am c;refine cT (vr (.bool (true)) ((show _=Ac5 (BG l y.name p)from rfl).trans (congrArg Ac5 hf))) (gS (AaH IZ rfl (gS (X6 (AaV c (CN y) (CX y) rfl) U7 rfl (Ar y.new.2) (gS (Aam (k:=33) (i:=p) EB J1 rfl j.2 hg rfl (hlt) (gS (AaH N0 rfl (gS (Zx (p:=p) (i:=y.new) rfl rfl j hg hlt QY fun cg br z=> ?_))))))))));have hZ2:=(ak.trans x).trans am;have hE:=hE.trans hZ2;have hE:=Bp hE z j.2 aj;have c:=AU c z bn;have a6:=f.size;have f:=f.trans hZ2;have f:=Bp f z j.2 a6;have h:=eb hZ2 h;have h:=AU h z bo;have q:=q.trans hZ2;have q:=Bp q z j.2 (AbA _);clear j;refine DC rfl (vr af rfl) (vr (NI 0) rfl) ?_;have hT:CA l p y=(0,l.set p ⟨(l.getD p dNmd).name,y.new⟩):=by rw[J7 hf,if_neg hmv,if_neg (by rw[hz];decide)]
  rw[show CA l p y=Al l y by unfold Al;rw[<-C0 hp]]at hT;exact⟨_,by rw[hT],by rw[hT];exact(AaS br aj),hE⟩
 replace hf:BG l y.name p=false:=by simpa using hf
 refine gS (Aa4 (v:=AB (AcB 32 0)) (by kernel_rfl) (gS (AaQ Ln fun a7 bs ch a8 an ci=> ?_)));have m:=AaI ay;have hE:=hE.trans ac;have a9:=hE.size;have t:=a8;clear a8;have cj:a7<bs.heap.size:=by omega
 refine gS (Ye (vr (PQ a7 0) rfl) (vr (AB (AcB 32 0)) rfl) t (by exact DP Ach Ach) (by exact Ar Ach) (Aw _) fun ba bb ao ck=> ?_);clear t;have t:=bb;clear bb;have cl:=bl t;have m:=m.trans an;have m:=Ad m ao (Abz (AbA _) (by omega));have c:=eb (ac.trans m) c;refine cF (vr (.bool (false)) ((show _=Ac5 (BG l y.name p)from rfl).trans (congrArg Ac5 hf))) (gS (Yx rfl t U7 rfl (by exact Ar Ach) (gS (AaH IY rfl (gS (X6 (AaV c (Ei y) (EI y) rfl) U7 rfl (Ar y.old.2) (gS (Zg (l1:=(AcB 32 0)) (l2:=y.old.1) U7 u5 Ph Q9 rfl rfl (Ach) (y.old.2) ?_))))))));refine cD rfl (fun r=> ?_) fun r=> ?_
 ·have hmv:=r;refine DC rfl (vr (AbM none 0 0) rfl) (vr (NI 15) rfl) ?_;have hT:CA l p y=(15,[]):=by rw[IJ hf,if_pos hmv]
  rw[show CA l p y=Al l y by unfold Al;rw[<-C0 hp]]at hT;have hE:=hE.trans an;have hE:=Ad hE ao (Abz a9 (by omega));exact⟨_,by rw[hT],by rw[hT];exact(AaT _ _ _ _ _),hE⟩
 have hmv:=r;have ag:=AaI ba;have hE:=hE.trans an;have hE:=Ad hE ao (Abz a9 (by omega));have bt:=hE;have bu:=m;have bc:=hE.size;refine gS (X4 Lo rfl ((Df _ v l (hr.keep hE) (by omega)).mono ?_));rintro e cm ⟨ap,rfl,o,aq⟩;refine⟨_,rfl,?_⟩;have c:=eb aq c;refine gS (AaH IZ rfl (gS (X6 (AaV c (CN y) (CX y) rfl) U7 rfl (Ar y.new.2) (gS (X4 Id rfl ((B0 _ y.new).mono ?_))))));rintro e cn ⟨rfl,aa⟩;refine⟨_,rfl,?_⟩;refine gO fun _=>Af (.bool (false)) rfl rfl (gT rfl) (fun hG118=>AaP (vr (.bool (false)) ((show _=Ac5 (BG l y.name p)from rfl).trans (congrArg Ac5 hf))) ⟨rfl,rfl⟩) (Av (gS (Yg rfl (fun hA=>(Ai rfl hA)) rfl fun bb119 hbb120=> ?_)));refine cB (bb119) rfl (fun s=> ?_) fun s=> ?_
 ·(subst hbb120;simp at s)
 subst hbb120;have c:=eb aa c;refine gS (AaH IZ rfl (gS (X6 (AaV c (CN y) (CX y) rfl) U7 rfl (Ar y.new.2) (gS (X4 Id rfl ((B0 _ y.new).mono ?_))))));rintro e co ⟨rfl,ab⟩;refine⟨_,rfl,?_⟩;refine cB (Ag y.new) rfl (fun ar=> ?_) fun ar=> ?_
 ·have hz:=ar;refine DC rfl (vr ap rfl) (vr (NI 0) rfl) ?_;have hT:CA l p y=(0,l):=by rw[IJ hf,if_neg hmv,if_pos hz]
  rw[show CA l p y=Al l y by unfold Al;rw[<-C0 hp]]at hT;have hZ3:=(aq.trans aa).trans ab;have hE:=hE.trans hZ3;have o:=o.keep (aa.trans ab);exact⟨_,by rw[hT],by rw[hT];exact(AaS o bc),hE⟩
 have hz:=ar;have hZ4:=(aq.trans aa).trans ab;have hE:=hE.trans hZ4;refine cF (vr (.bool (false)) ((show _=Ac5 (BG l y.name p)from rfl).trans (congrArg Ac5 hf))) (gS (Yb EB (Ya (hr.keep hE) rfl) (gS (X0 (a:=(l.length:Nat)) (b:=(64:Nat)) rfl rfl (E7 _ _ _ _) ?_))));refine cD rfl (fun bv=> ?_) fun bv=> ?_
 ·have hfu:64<=l.length:=by omega
  refine DC rfl (vr (AbM none 0 0) rfl) (vr (NI 3) rfl) ?_;have hT:CA l p y=(3,[]):=by rw[IJ hf,if_neg hmv,if_neg (by rw[hz];decide),if_pos hfu]
  rw[show CA l p y=Al l y by unfold Al;rw[<-C0 hp]]at hT;exact⟨_,by rw[hT],by rw[hT];exact(AaT _ _ _ _ _),hE⟩
 have hfu:¬64<=l.length:=by omega
 have c:=eb ab c;refine gS (AaH N5 rfl (gS (XZ Eu rfl rfl (Ac c (Eh y)) (gS (AaH IZ rfl (gS (X6 (AaV c (CN y) (CX y) rfl) U7 rfl (Ar y.new.2) (gS (YM (vr (St (y.name)) rfl) (vr (AB y.new.1) rfl) (fun w=>Mc y.name y.new w) (gS (Aau (enc:=nmdC) (a:=(⟨y.name,y.new⟩:AF)) (vr (.agg (nmdC (⟨y.name,y.new⟩:AF)).toArray) rfl) (BC _) Rw fun bd cp cq be au cr=> ?_)))))))))));have o:=o.keep (aa.trans ab);have bw:OB ap bd:=BY o.2 (by omega);have hZ5:=hZ4.trans au;have ag:=ag.trans hZ5;have o:=o.keep au;refine gS (Yc PD rfl rfl rfl ((Ru ba _ ap _ l p bd (⟨y.name,y.new⟩:AF) _ ag o hp.1 (by omega) rfl be bw).mono ?_));rintro e cs ⟨bx,rfl,bz,av⟩;refine⟨_,rfl,?_⟩;have hE:=hE.trans au;have hE:=bt.trans av;clear c;have ct:=m.size;have m:=m.trans hZ5;have m:=bu.trans av;clear t;have ag:=av;clear be;clear o;refine DC rfl (vr bx rfl) (vr (NI 0) rfl) ?_;have hT:CA l p y=(0,l.take p++⟨y.name,y.new⟩ :: l.drop p):=by rw[IJ hf,if_neg hmv,if_neg (by rw[hz];decide),if_neg hfu]
 rw[show CA l p y=Al l y by unfold Al;rw[<-C0 hp]]at hT;exact⟨_,by rw[hT],by rw[hT];exact(AaS bz bc),hE⟩
abbrev B1:Ae:=(⟨[],[],[109,97,105,110],zid,[]⟩,⟨.slice none 0 0, .slice none 0 0, .slice none 0 0⟩)
theorem Rx{d:Option Tmp}{ty:AbC}{pos:String}{af:Array Acn}{gd:Option (Nat × Bool)}(σ:AbG->Abv)(w:Abw):(execOp σ ⟨d, .alloc 36,ty,pos,af,gd⟩).run Abx w = .ok (.value (PQ w.heap.size 0)) (w.alloc (.cells (refsC ((⟨[],[],[],zid,[]⟩,⟨.slice none 0 0, .slice none 0 0, .slice none 0 0⟩):Ae)).toArray 36)):=by kernel_rfl
theorem MQ(z2:ByteArray)(w:Abw):(Acy 36 #[(2, .string z2)]).run Abx w = .ok (.agg #[.slice none 0 0, .slice none 0 0, .string z2, .int .u8 0, .int .u8 0, .int .u8 0, .int .u8 0, .int .u8 0, .int .u8 0, .int .u8 0, .int .u8 0, .int .u8 0, .int .u8 0, .int .u8 0, .int .u8 0, .int .u8 0, .int .u8 0, .int .u8 0, .int .u8 0, .int .u8 0, .int .u8 0, .int .u8 0, .int .u8 0, .int .u8 0, .int .u8 0, .int .u8 0, .int .u8 0, .int .u8 0, .int .u8 0, .int .u8 0, .int .u8 0, .int .u8 0, .int .u8 0, .int .u8 0, .int .u8 0, .slice none 0 0]) w:=by kernel_rfl
theorem N7(z2:AgS)(w:Abw):(Acy 36 #[(2,St z2)]).run Abx w = .ok (.agg ((AbM none 0 0) :: ((AbM none 0 0) :: (St (z2) :: (Aby zid.1++((AbM none 0 0) :: ([])))))).toArray) w:=by
 exact MQ _ w
theorem Lp:∃fs,Tryz.prog.underlying 36=some (.struct fs):=Dh (by kernel_rfl)
theorem J9:(Tryz.prog.info? 36).map (·.size)=some 36:=by kernel_rfl
theorem Ry:EA Abx 36 refsC:=⟨⟨_,(Lp).choose_spec⟩,fun x=>AM (An x) J9⟩
theorem Rz(w:Abw):
  Calls Abx 75 #[] w fun e w' =>e = .returned (.agg (refsC B1).toArray)/\Ext w w' :=by
 refine gG (args:= []) Tryz.func75 rfl 2 rfl rfl ?_;have hE:=AaI w;refine gS (AaQ Rx fun b g k c h l=> ?_);have a:=c;clear c;have m:b<g.heap.size:=by omega
 refine gS (Y2 (vr (St (([109,97,105,110]:AgS))) rfl) (fun w=>N7 ([109,97,105,110]:AgS) w) (gS (Yd Ry (vr (PQ b 0) rfl) (vr (.agg (refsC ((⟨[],[],([109,97,105,110]:AgS),zid,[]⟩,⟨(AbM none 0 0),(AbM none 0 0),(AbM none 0 0)⟩):Ae)).toArray) rfl) a (A9 rfl rfl rfl) fun i f j n=> ?_)));clear a;have a:i.heap[b]? =some (.cells (refsC ((⟨[],[],([109,97,105,110]:AgS),zid,[]⟩,⟨(AbM none 0 0),(AbM none 0 0),(AbM none 0 0)⟩):Ae)).toArray 36 (0,0)):=f;clear f;have o:=bl a;refine GW rfl (AaU rfl a (Lp).choose_spec rfl (AM (An _) J9)) ?_;have hE:=hE.trans h;have hE:=Ad hE j (Abz (AbA _) (by omega));exact⟨rfl,hE⟩
def MR(r:As)(y:Ax):Bool:=((decide ((Al r.branches y).1=0)&&Ag y.new)&&(!Ag y.old))&&decide (r.head=y.name)
def CK(r:As)(y:Ax):Nat × As:=if MR r y=true then(16,r)else if(Al r.branches y).1=0 then(0,⟨(Al r.branches y).2,r.tags,r.head,r.at_,r.log⟩)else((Al r.branches y).1,r)
def FZ(r:As)(y:Ax):Nat × As:=if(Al r.tags y).1=0 then(0,⟨r.branches,(Al r.tags y).2,r.head,r.at_,r.log⟩)else((Al r.tags y).1,r)
def Mn(r:As)(y:Ax):Nat × As:=(0,⟨r.branches,r.tags,y.name,y.new,r.log⟩)
def Ce(r:As)(y:Ax):Nat × As:=if y.kind.toNat=1 then CK r y else if y.kind.toNat=2 then FZ r y else Mn r y
structure AppAt (w0 w : Abw) (g : Nat) (z : Ae) : Prop where
 ext:Ext w0 w
 g0:w0.heap.size<=g
 blk:w.heap[g]? =some (.cells (refsC z).toArray 36 (0,0))
 br:OG w0.heap.size 94 33 nmdC w z.2.branches z.1.branches
 tg:OG w0.heap.size 94 33 nmdC w z.2.tags z.1.tags
 lg:OG w0.heap.size 97 67 entC w z.2.log z.1.log
 ab:z.2.branches.ownBlock≠some g
 at_:z.2.tags.ownBlock≠some g
 al:z.2.log.ownBlock≠some g
 lb:Cw z.2.log z.2.branches
 lt:Cw z.2.log z.2.tags
theorem AppAt.keep{w0 w w' :Abw}{g:Nat}{z:Ae}(h:AppAt w0 w g z)(k:Ext w w'):AppAt w0 w' g z:=⟨h.ext.trans k,h.g0,YI k h.blk,h.br.keep k,h.tg.keep k,h.lg.keep k,h.ab,h.at_,h.al,h.lb,h.lt⟩
structure EN (r : As) : Prop where
 br:Ds r.branches
 tg:Ds r.tags
 bl:r.branches.length<=64
 tl:r.tags.length<=64
end Go.Proofs.YtbbbblinjomajaaGreatDoor
