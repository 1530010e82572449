/- Part 2 of what stands behind these statements: laws and walks of the functions that are reached. Conditions: those that each theorem names. -/
import Derived.Test.YtbbbblinjomajaaGreatDoorN1
set_option linter.unusedVariables false
set_option linter.unusedSimpArgs false
namespace Go.Proofs.YtbbbblinjomajaaGreatDoor
open _root_.Go renaming TypeId->Abz,binOp->Aca,IntKind->AcG,World->Abt,Program->AbN,Value->Abs,Edge->Ack,Operand->AbD,MapEntry->AdO
open _root_.BitVec renaming ofNat->Ad0,toNat_ofNat->AeA
open _root_.Nat renaming mod_eq_of_lt->AeL,min_eq_left->Ad6,le_refl->Abx,lt_of_le_of_lt->Ads,and_le_right->Adq,pow_le_pow_right->Adb,mul_comm->Aft,mul_le_mul->Ae5,min->Ad4,le_of_eq->Afv,zero_le->AbQ,le_trans->Abw,zero_add->Adc,add_mul->AcN,add_sub_cancel_left->AdA,not_lt_zero->AcK,zero_mul->Ad1,add_zero->AeR,mul_le_mul_right->AdQ,min_def->AfZ
open _root_.Go.Value renaming int->AdH,slice->AbJ,ownBlock->Acb,bool->Ac2
open _root_.Int renaming toNat_natCast->AbZ
open _root_.Go.Sem renaming run_bind->AbC,run_pure->AbE
open _root_.Go.Result renaming andThen_ok->AbB,andThen->Acj
open _root_.Go.RowKit.Below renaming refl->Aco
open _root_.Go.Instr renaming next->Aem,lookup->Agy,mapUpdate->AfP,build->Acv,buildSlice->Ab1,sliceAt->AdM
open _root_.Array renaming getElem?_eq_some_iff->Acg,length_toList->AcZ,getElem?_setIfInBounds->Adj
open _root_.Option renaming map_eq_some_iff->Adm,map_some->AcO,map_none->Adl
open _root_.Go.Lib renaming uvarint->AbU,hid->Ac5,byteCells->Abv,byteCells_length->AbH
open _root_.List renaming cons_append->Ab2,length_drop->AbS,take_of_length_le->Ab8,eq_nil_of_length_eq_zero->Acm,drop_eq_getElem_cons->Adt,replicate->Acy,length_replicate->Ace,length_take->AbR,drop_of_length_le->AdD,getD_eq_getElem?_getD->AbA,getElem?_eq_getElem->AbG,getElem_mem->Ada,map_toArray->AbI,map_cons->AbL,map_nil->AbP,append_toArray->Ach,nil_append->Acd,toArray->Ab3,mem_of_getElem?->AdS,mem_map->Acn,mem_singleton->Ab9,getElem?_eq_some_iff->AbW,mem_iff_getElem->AcX,mem_eraseIdx_iff_getElem->AeX,eraseIdx_sublist->Aeg,size_toArray->Ab5,flatMap_cons->Acl,mem_of_mem_drop->Aen,drop_zero->AdX,length_append->Aby,append_assoc->AbV,getElem?_take->Adr,getElem?_drop->AdG,lt_trans->Afg,length_nil->AbO,drop_left'->AeT,take_left'->AcH,take_append_drop->AcS,length_cons->AbK,flatMap_append->Ac0,length_set->Ady,takeWhile_cons->Ad2
open _root_.Go.Proofs.Tryz renaming prog->Abu,func121->Agx,ntmps121->Agh,func76->AfY,ntmps76->Afu
open _root_.Go.Ending renaming returned->AcW
open _root_.And renaming intro->Acz
open _root_.Go.MapKept renaming IsKey->Aes,run_findKey->Agm,Stamped->AeU,run_getObj_map->Adn,run_setObj_map->Ad9
open _root_.Go.Builtin renaming delete_->AfQ,zeroCells->Acp,copy_->Age
open _root_.Go.Addr renaming add_lit->AcT
open _root_.Go.Op renaming bytesLess->Ab4
open _root_.Option.some renaming injEq->Adf
open _root_.Go.Program renaming elem->AdF
open _root_.Exists renaming elim->Aea
open Go.RowKit
theorem Es(n:Nat)(h:n<2147483648):IntKind.i32.wrap (n:Int)=(n:Int):=IntWalk.i32_in _ ⟨by omega,by omega⟩
theorem Wx(t:Abz)(a b:Nat)(ha:a<2147483648)(hb:b<2147483648):Aca .or t (.int .i32 (a:Int)) (.int .i32 (b:Int))=pure (.int .i32 ((a|||b:Nat):Int)):=by
 unfold Aca;simp only[ne_eq,not_true_eq_false,if_false,Op.intBits,IntKind.bits,BitVec.ofInt_natCast];have h1:(Ad0 32 a|||Ad0 32 b).toNat=a|||b:=by
  rw[BitVec.toNat_or,AeA,AeA,AeL (by omega),AeL (by omega)]
 show pure (AdH .i32 (IntKind.i32.wrap (((Ad0 32 a|||Ad0 32 b).toNat:Nat):Int)))=_;rw[h1,Es _ (Nat.or_lt_two_pow (n:=31) ha hb)]
theorem Vq(t:Abz)(a:Nat)(j:AcG)(n:Nat)(hn:n<32)(h:a*2^n<2147483648):Aca .shl t (.int .i32 (a:Int)) (.int j (n:Int))=pure (.int .i32 ((a*2^n:Nat):Int)):=by
 unfold Aca;simp only[Op.shift,IntKind.bits];rw[if_neg (by omega),AbZ,Ad6 (by omega)];have:(a:Int)*2^n=((a*2^n:Nat):Int):=by simp
 rw[this,Es _ h]
/-! ### A string, rune by rune -/
theorem JU{w:Abt}{g p:Nat}{s:ByteArray}(h:w.heap[g]? =some (.stringIter s p)):w.iterPos g=p:=by simp[World.iterPos,h]
theorem JV(l:AgP):(⟨l.toArray⟩:ByteArray).size=l.length:=by show l.toArray.size=_;simp
theorem Vr(s:ByteArray)(p:Nat)(h:p<s.size):1<=(Utf8.decode s p).2:=by
 by_cases hc:(s[p]'h).toNat<128
 ·rw[decode_ascii s p h hc];exact Abx 1
 ·exact(decode_high s p h (by omega)).2
section
variable {P : AbN} {K : Abs -> Abt -> Prop} {ρ : Ah} {w : Abt} {d : Option Tmp} {ty : Abz} {pos : String} {af : Array Ack} {gd : Option (Nat × Bool)}
theorem Z1{t:Abz}(ht:P.underlying t=some .string){x:AbD}{l:AgP}(hx:Ab ρ x=St l) 
  (hk:∀n w',w.heap.size=n->w'.heap[n]? =some (.stringIter ⟨l.toArray⟩ 0)->Ext w w' ->w'.heap.size=n+1->K (.pointer (some ⟨n,0,none⟩)) w'):Yk P K ((execOp (Ab ρ) ⟨d, .range t x,ty,pos,af,gd⟩).run P w):=by
 have hr:(execOp (Ab ρ) ⟨d, .range t x,ty,pos,af,gd⟩).run P w = .ok (.value (.pointer (some ⟨w.heap.size,0,none⟩))) (w.iter ⟨l.toArray⟩ 0):=by
  unfold execOp;simp only[hx,AbC,show(Instr.range t (St l)).run P w=_ from run_range_string w t _ ht,AbB,AbE]
 rw[hr];exact hk _ _ rfl (World.iter_heap _ _ _) ((Aco _ _).alloc (Abx _) _) (by simp[World.iter])
theorem Aae{x:AbD}{g:Nat}{l:AgP}{p:Nat}(hx:Ab ρ x = .pointer (some ⟨g,0,none⟩))(hg:w.heap[g]? =some (.stringIter ⟨l.toArray⟩ p))(hp:p<l.length) 
  (hk:∀q r w',p<q->w'.heap[g]? =some (.stringIter ⟨l.toArray⟩ q)->w.grownBy w' (some g)->w'.heap.size=w.heap.size->K (.tuple #[.bool true,NI p, .int .i32 ((r:Nat):Int)]) w'):Yk P K ((execOp (Ab ρ) ⟨d, .next x true,ty,pos,af,gd⟩).run P w):=by
 have hlt:p<(⟨l.toArray⟩:ByteArray).size:=by rw[JV];exact hp
 have hr:(Aem (.pointer (some ⟨g,0,none⟩)) true ty).run P w = .ok (.tuple #[.bool true,NI p, .int .i32 ((Utf8.decode ⟨l.toArray⟩ p).1:Nat)]) { w with heap:=w.heap.setIfInBounds g (.stringIter ⟨l.toArray⟩ (p+(Utf8.decode ⟨l.toArray⟩ p).2)) } :=by
  simp only[Aem,getObj,setObj,AbC,Sem.run,hg,Acj,hlt,if_true];simp[goInt,NI]
 unfold execOp;simp only[hx,hr,AbC,AbB,AbE];have hb:=(Acg.1 hg).1;refine hk _ _ _ (Nat.lt_add_of_pos_right (Vr _ _ hlt)) ?_ ⟨rfl,rfl,rfl,by simp,fun k _ hk=> ?_⟩ (by simp)
 ·simp[hb]
 ·exact Array.getElem?_setIfInBounds_ne (fun e=>hk (by rw[e]))
theorem Z2{x:AbD}{g:Nat}{l:AgP}{p:Nat}(hx:Ab ρ x = .pointer (some ⟨g,0,none⟩))(hg:w.heap[g]? =some (.stringIter ⟨l.toArray⟩ p))(hp:¬p<l.length) 
  (hk:K (.tuple #[.bool false]) w):Yk P K ((execOp (Ab ρ) ⟨d, .next x true,ty,pos,af,gd⟩).run P w):=by
 have hlt:¬p<(⟨l.toArray⟩:ByteArray).size:=by rw[JV];exact hp
 have hr:(Aem (.pointer (some ⟨g,0,none⟩)) true ty).run P w = .ok (.tuple #[.bool false]) w:=by
  simp[Aem,getObj,Sem.run,hg,hlt]
 unfold execOp;simp only[hx,hr,AbC,AbB,AbE];exact hk
end
/-! ### Is it a text? -/
def C9(c:UInt8):Option (Nat × Nat × Nat):=
 if c.toNat<128 then some (0,c.toNat,0)else if 192<=c.toNat/\c.toNat<224 then some (1,c.toNat&&&31,128)
 else if 224<=c.toNat/\c.toNat<240 then some (2,c.toNat&&&15,2048)else if 240<=c.toNat/\c.toNat<248 then some (3,c.toNat&&&7,65536)else none
def E9(l:AgP)(p:Nat):Nat->Nat->Option Nat
 | 0,r=>some r
 | k+1,r=>if(l.getD p 0).toNat&&&192≠128 then none else E9 l (p+1) k (r*2^6|||((l.getD p 0).toNat&&&63))
def MB(r:Nat):Bool:=(decide (0<=r)&&decide (r<=1114111))&&(decide (r<55296)||decide (57343<r))
def Ee(l:AgP)(a:Nat):Option Nat:=
 match C9 (l.getD a 0)with
 | none=>none
 | some (n,r,m)=>if l.length-a<=n then none else
  match E9 l (a+1) n r with
  | none=>none
  | some q=>if m<=q/\MB q=true then some (a+n+1)else none
def Xb(o:Option (Nat × Nat × Nat)):Abs:=match o with
 | none=> .tuple #[.int .i64 (-1), .int .i32 0, .int .i32 0]
 | some (n,r,m)=> .tuple #[NI n, .int .i32 (r:Int), .int .i32 (m:Int)]
theorem QT{l:AgP}{p i n q:Nat}(hi:i<n)(h:(l.getD (p+i) 0).toNat&&&192≠128):E9 l (p+i) (n-i) q=none:=by
 rw[show n-i=(n-i-1)+1 by omega];exact if_pos h
theorem Pd{l:AgP}{p i n q:Nat}(hi:i<n)(h:(l.getD (p+i) 0).toNat&&&192=128):E9 l (p+i) (n-i) q=E9 l (p+(i+1)) (n-(i+1)) (q*2^6|||((l.getD (p+i) 0).toNat&&&63)):=by
 rw[show n-i=(n-(i+1))+1 by omega];exact if_neg (fun e=>e h)
theorem NV{q i c:Nat}(h:q<2^(7+6*i)):q*2^6|||(c&&&63)<2^(7+6*(i+1)):=by
 refine Nat.or_lt_two_pow ?_ (Ads Adq ?_)
 ·rw[show 7+6*(i+1)=(7+6*i)+6 by omega,Nat.pow_add];exact Nat.mul_lt_mul_of_pos_right h (by decide)
 ·exact Nat.lt_of_lt_of_le (show 63<2^7 by decide) (Adb (by decide) (by omega))
theorem IT{q i n:Nat}(h:q<2^(7+6*i))(hi:i<n)(hn:n<=3):q*2^6<2147483648:=by
 have:2^(7+6*i)<=2^19:=Adb (by decide) (by omega);omega
theorem U5(c:Nat):c&&&63<2147483648:=Ads Adq (by decide)
theorem QU{l:AgP}{a:Nat}(h:C9 (l.getD a 0)=none):Ee l a=none:=by unfold Ee;rw[h]
theorem Pe{l:AgP}{a n r m:Nat}(h:C9 (l.getD a 0)=some (n,r,m))(hs:l.length-a<=n):Ee l a=none:=by unfold Ee;rw[h];exact if_pos hs
theorem S8{l:AgP}{a n r m:Nat}(h:C9 (l.getD a 0)=some (n,r,m))(ht:E9 l (a+1) n r=none):Ee l a=none:=by
 unfold Ee;rw[h];simp only[ht];exact ite_self _
theorem Vs{l:AgP}{a n r m q:Nat}(h:C9 (l.getD a 0)=some (n,r,m))(hs:¬l.length-a<=n)(ht:E9 l (a+1) n r=some q):Ee l a=if(decide (m<=q)&&MB q)=true then some (a+n+1)else none:=by
 unfold Ee;rw[h];simp only[ht,if_neg hs,Bool.and_eq_true,decide_eq_true_eq]
theorem KM{l:AgP}{a b:Nat}(h:Ee l a=some b):a<b/\b<=l.length:=by
 unfold Ee at h;split at h
 ·cases h
 ·split at h
  ·cases h
  ·split at h
   ·cases h
   ·split at h
    ·cases h;omega
    ·cases h
def Ef(l:AgP)(a:Nat):Bool:=
 if a<l.length then
  match _h:Ee l a with
  | none=>false
  | some b=>Ef l b
 else true
termination_by l.length-a
decreasing_by have:=KM (by assumption);omega
theorem Jl{l:AgP}{a:Nat}(h:¬a<l.length):Ef l a=true:=by rw[Ef,if_neg h]
theorem QV{l:AgP}{a:Nat}(ha:a<l.length)(h:Ee l a=none):Ef l a=false:=by
 rw[Ef,if_pos ha];split
 ·rfl
 ·rename_i h2;rw[h]at h2;cases h2
theorem La{l:AgP}{a b:Nat}(ha:a<l.length)(h:Ee l a=some b):Ef l a=Ef l b:=by
 rw[Ef,if_pos ha];split
 ·rename_i h2;rw[h]at h2;cases h2
 ·rename_i h2;rw[h]at h2;cases h2;rfl
def Ch(l:AgP):Bool:=decide (l.length<=256)&&Ef l 0
theorem Pf{c:UInt8}{n r m:Nat}(h:C9 c=some (n,r,m)):n<=3/\r<2^7/\(0<n->r<2^5)/\m<=65536:=by
 have hm:c.toNat&&&31<=31/\c.toNat&&&15<=15/\c.toNat&&&7<=7:=⟨Adq,Adq,Adq⟩;unfold C9 at h;split at h
 ·cases h;omega
 ·split at h
  ·cases h;omega
  ·split at h
   ·cases h;omega
   ·split at h
    ·cases h;omega
    ·cases h
def AO(k:Nat):AgP->Option (Nat × Nat)
 | []=>none
 | c :: r=>if 128<=c.toNat then(if 8<=k then none else(AO (k+1) r).map (fun x=>(c.toNat-128+128*x.1,x.2+1)))
  else if c.toNat=0/\0<k then none else some (c.toNat,1)
theorem Hb:∀(l:AgP) (k:Nat) (x:Nat × Nat),AO k l=some x->1<=x.2/\x.2<=l.length/\x.2+k<=max 9 (k+1)
 | [],k,x,h=>by simp[AO]at h
 | c :: r,k,x,h=>by
  unfold AO at h;split at h
  ·split at h
   ·cases h
   ·obtain⟨y,hy,rfl⟩:=Adm.1 h;have:=Hb r (k+1) y hy;simp;omega
  ·split at h
   ·cases h
   ·cases h;simp;omega
theorem Lb:∀(l:AgP) (k:Nat) (x:Nat × Nat),AO k l=some x->x.1<128^x.2
 | [],k,x,h=>by simp[AO]at h
 | c :: r,k,x,h=>by
  unfold AO at h;split at h
  ·split at h
   ·cases h
   ·obtain⟨y,hy,rfl⟩:=Adm.1 h;have:=Lb r (k+1) y hy;have hc:=c.toNat_lt;simp only[Nat.pow_succ];omega
  ·split at h
   ·cases h
   ·cases h;simp;omega
theorem D6(rest:AgP):∀(m n k:Nat),n<128^(m+1)->m+k<=8->(0<k->0<n)->AO k (AbU n++rest)=some (n,(AbU n).length)
 | m,n,k,hn,hk,h0=>by
  by_cases h:n<128
  ·rw[Lib.uvarint_small h];have:(n.toUInt8).toNat=n:=by simp[Nat.toUInt8,UInt8.toNat_ofNat'];omega
   simp only[Ab2,AO,this];rw[if_neg (by omega),if_neg (by omega)];simp
  ·have hb:((n%128+128).toUInt8).toNat=n%128+128:=by simp[Nat.toUInt8,UInt8.toNat_ofNat'];omega
   rw[Lib.uvarint_big (by omega)];simp only[Ab2,AO,hb]
   match m,hn,hk with
   | 0,hn,_=>simp at hn;omega
   | m+1,hn,hk=>
    rw[if_pos (by omega),if_neg (by omega),D6 rest m (n/128) (k+1) (by rw[Nat.pow_succ]at hn;exact Nat.div_lt_of_lt_mul (by rw[Aft];exact hn)) (by omega) (fun _=>by omega)];simp;omega
theorem Pg:∀w' :Abt,(sizeOf 5).run Abu w' = .ok 1 w' :=fun _=>by kernel_rfl
def Ei(a:Nat):Option (Nat × Nat)->Abs
 | some x=> .tuple #[.int .i64 x.1, .int .i64 ↑(a+x.2), .int .i64 0]
 | none=> .tuple #[.int .i64 0, .int .i64 0, .int .i64 6]
theorem Hc(y k:Nat)(hy:y<128)(hk:k<=8):IntKind.u64.wrap ((y:Int)*2^(7*k))=((y*2^(7*k):Nat):Int):=by
 have h1:y*2^(7*k)<=127*2^56:=Ae5 (by omega) (Adb (by decide) (by omega));have e:((y:Int)*2^(7*k))=((y*2^(7*k):Nat):Int):=by push_cast;rfl
 rw[e];exact IntWalk.u64_in _ ⟨by omega,by omega⟩
theorem MC(out y k:Nat)(hout:out<2^(7*k))(hy:y<128)(hk:k<=8):bits .or .u64 (out:Int) ((y*2^(7*k):Nat):Int)=((out+2^(7*k)*y:Nat):Int):=by
 have h1:y*2^(7*k)<=127*2^56:=Ae5 (by omega) (Adb (by decide) (by omega));have h2:2^(7*k)<=2^56:=Adb (by decide) (by omega);have h:=(bits_nat .u64 64 (by decide) wraps_u64 out (y*2^(7*k)) (by omega) (by omega)).2;rw[h]
 congr 1
 have h3:=Nat.shiftLeft_add_eq_or_of_lt hout y;rw[Nat.shiftLeft_eq]at h3;rw[Nat.or_comm,<-h3,Aft];omega
set_option maxRecDepth 100000 in
theorem Ph:∀n:Fin 128,bits .andNot .u8 ((n.val+128:Nat):Int) 128=(n.val:Int):=by decide+kernel
theorem MD(c:Nat)(h:128<=c)(h2:c<256):IntKind.u64.wrap (bits .andNot .u8 (c:Int) 128)=((c-128:Nat):Int):=by
 have h1:=Ph ⟨c-128,by omega⟩;have e:c-128+128=c:=by omega
 simp only[e]at h1;rw[h1];exact IntWalk.u64_in _ ⟨by omega,by omega⟩
theorem ME(out y k:Nat)(hout:out<2^(7*k))(hy:y<128)(hk:k<=8):out+2^(7*k)*y<=9223372036854775807:=by
 have h1:2^(7*k)*y<=2^56*127:=Ae5 (Adb (by decide) (by omega)) (by omega);have h2:2^(7*k)<=2^56:=Adb (by decide) (by omega);omega
theorem QW(a k N c:Nat)(h:N+2^(7*k)*c<=9223372036854775807):
  AcW (.tuple #[.int .i64 (wrap64 ((N+2^(7*k)*c:Nat):Int)), .int .i64 ((a:Int)+(k:Int)+1), .int .i64 0]) = .returned (Ei a ((some (c,1)).map fun x=>(N+2^(7*k)*x.1,x.2+k))):=by
 rw[IntWalk.wrap64_in _ ⟨by omega,by omega⟩];have e:(a:Int)+(k:Int)+1=((a+(1+k):Nat):Int):=by omega
 rw[e];rfl
set_option maxRecDepth 100000 in
set_option maxHeartbeats 1000000 in
theorem GW(w:Abt)(v:Abs)(l:AgP)(hr:RB w v l)(a:Nat)(ha:a<=l.length):
  Calls Abu 121 #[v, .int .i64 a] w fun e w' =>e = .returned (Ei a (AO 0 (l.drop a)))/\w=w' :=by
 have HR:=Ac5 hr;obtain⟨ao,cap,rfl,h2,h3⟩:=hr.len;clear hr;have hd:decide ((a:Int)<0)=false:=by simp
 have hd2:decide (l.length<a)=false:=by simp;omega
 obtain⟨L,hL⟩:∃L,L=l.drop a:=⟨_,rfl⟩;have hLn:l.length-a=L.length:=by rw[hL,AbS]
 rw[<-hL];have HLn:=Ac5 hLn;have HL:=Ac5 hL;clear hLn hL
 go_enter Agx,Agh
 go_wp2_with fail
 go_step3
 go_wp2_with fail
 go_step3
 go_wp2_with (refine GH (o:=⟨some 21,_,_,_,_,_⟩) rfl _ _ (some _) none rfl GK Pg _ l rfl HR.out a l.length ha (Abx _) (.inr ⟨.i64,rfl⟩) (.inl ⟨rfl,rfl⟩) ?_)
 intro ao' c' hr';rw[Ab8 (by rw[AbS];exact Abx _)]at hr';have HR' :=Ac5 hr';clear hr' hd hd2;rw[<-HL.out,HLn.out]at HR';rw[HLn.out];by_cases g:L.length=0
 ·have hL0:L= []:=Acm g;have HL0:=Ac5 hL0;clear hL0 HR' HR;have h00:decide (0<L.length)=false:=by simp[g]
  clear g
  go_wp2_with fail
  refine wp_loop_rounds 1 ?_;rw[rounds_succ]
  go_wp2
  rw[Exit.noGoto_ret]
  all_goals (go_ret3;exact⟨by rw[HL0.out];simp[AO,Ei],rfl⟩)
 obtain⟨b,off,cc,hv,hcap,hcap2,hbw,hcell⟩:=HR'.out.open_ (by omega);simp only[Value.slice.injEq,true_and]at hv;obtain⟨rfl,rfl⟩:=hv;have haL:a+L.length<=9223372036854775807:=by have:=HLn.out;omega
 clear HR' HR
 go_wp2_with fail
 go_loop [7,8,23] (fun vx vs vi=>∃k out:Nat,vi = .int .i64 k/\vs = .int .i64 ((7*k:Nat):Int)/\vx = .int .u64 out/\k<=L.length/\k<=8/\out<2^(7*k)/\AO 0 L=(AO k (L.drop k)).map (fun x=>(out+2^(7*k)*x.1,x.2+k)))
  (fun _ _ vi=>L.length-(intOf vi).toNat)
 case atStart=>exact⟨0,0,rfl,rfl,rfl,by omega,by omega,by decide,by simp⟩
 case round=>
  obtain⟨k,out,rfl,rfl,rfl,hk,f,hout,hdec⟩:=hrel;have HD:=Ac5 hdec;clear hdec;by_cases hkl:k<L.length
  ·have hc:=hcell k hkl;have hdrop:L.drop k=L[k] :: L.drop (k+1):=Adt hkl;have hg:L.getD k 0=L[k]:=by simp[hkl]
   rw[hg]at hc
   generalize L[k]=c at hc hdrop
   have HDr:=Ac5 hdrop;have i:=c.toNat_lt;clear hcell hdrop hg;have HO:=Ac5 hout;clear hout;by_cases h128:128<=c.toNat
   ·by_cases hk8' :k=8
    ·subst hk8'
     go_wp2
     all_goals (go_ret3;exact⟨by rw[HD.out,HDr.out];simp[AO,h128,Ei],rfl⟩)
    ·have m:k<8:=by omega
     clear hk8'
     go_wp2
     go_round
     case rel=>
      have hp:2^(7*(k+1))=2^(7*k)*128:=by rw[show 7*(k+1)=7*k+7 from by omega,Nat.pow_add]
      refine⟨k+1,out+2^(7*k)*(c.toNat-128),by go_num,by go_num,?_,by omega,by omega,?_,?_⟩
      ·rw[MD _ h128 i,Hc _ _ (by omega) (by omega),MC _ _ _ HO.out (by omega) (by omega)]
      ·have h1:=HO.out;have h2:2^(7*k)*(c.toNat-128)<=2^(7*k)*127:=Nat.mul_le_mul_left _ (by omega);rw[hp];omega
      ·rw[HD.out,HDr.out];have:AO k (c :: L.drop (k+1))=(AO (k+1) (L.drop (k+1))).map (fun x=>(c.toNat-128+128*x.1,x.2+1)):=by
        simp only[AO];rw[if_pos h128,if_neg (by omega)]
       rw[this,Option.map_map]
       congr 1
       funext x
       simp only[Function.comp,Prod.mk.injEq];refine⟨?_,by omega⟩;rw[hp,Nat.mul_add,Nat.mul_assoc];omega
     case measure=>simp[intOf];omega
   ·have hlt:c.toNat<128:=by omega
    by_cases h0:c.toNat=0
    ·have hz:((c.toNat:Int)==0)=true:=by simp[h0]
     have HZ:=Ac5 h0;clear h0;by_cases h:0<k
     ·go_wp2
      all_goals (go_ret3;exact⟨by rw[HD.out,HDr.out];simp[AO,HZ.out,h,Ei],rfl⟩)
     ·have j:decide (0<k)=false:=by simp;omega
      clear h;have hd:AO k (c :: L.drop (k+1))=some (c.toNat,1):=by
       simp only[AO];rw[if_neg h128,if_neg (by simp at j;omega)]
      have HD2:=Ac5 hd;clear hd
      go_wp2
      all_goals go_ret3
      all_goals refine⟨?_,rfl⟩
      all_goals rw[Hc _ _ hlt f,MC _ _ _ HO.out hlt f,HD.out,HDr.out,HD2.out]
      all_goals exact QW a k _ _ (ME _ _ _ HO.out hlt f)
    ·have hz:((c.toNat:Int)==0)=false:=by simp[h0]
     have HZ:=Ac5 h0;clear h0;have hd:AO k (c :: L.drop (k+1))=some (c.toNat,1):=by
      simp only[AO];rw[if_neg h128,if_neg (by have:=HZ.out;omega)]
     have HD2:=Ac5 hd;clear hd
     go_wp2
     all_goals go_ret3
     all_goals refine⟨?_,rfl⟩
     all_goals rw[Hc _ _ hlt f,MC _ _ _ HO.out hlt f,HD.out,HDr.out,HD2.out]
     all_goals exact QW a k _ _ (ME _ _ _ HO.out hlt f)
  ·have hkl' :k=L.length:=by omega
   go_wp2
   all_goals (go_ret3;exact⟨by rw[HD.out,hkl'];simp[AO,Ei],rfl⟩)
theorem u5:Tryz.prog.underlying 5=some (.int .u8):=by kernel_rfl

theorem XG(w:Abt)(ao:Option Addr)(n c:Nat)(a:Int)(ha:a<0\/(n:Int)<a):
  Calls Abu 121 #[.slice ao n c, .int .i64 a] w fun e w' =>e = .returned (.tuple #[.int .i64 0, .int .i64 0, .int .i64 1])/\w=w' :=by
 by_cases h0:a<0
 ·have hd:decide (a<0)=true:=by simp[h0]
  clear ha
  go_enter Agx,Agh
  go_wp2_with fail
  go_step3
  go_wp2_with fail
  rw[Exit.noGoto_ret]
  go_ret3
  exact⟨rfl,rfl⟩
 ·have hd:decide (a<0)=false:=by simp[h0]
  have h1:(n:Int)<a:=by omega
  have hd2:decide ((n:Int)<a)=true:=by simp[h1]
  clear ha
  go_enter Agx,Agh
  go_wp2_with fail
  go_step3
  go_wp2_with fail
  rw[Exit.noGoto_ret]
  go_ret3
  exact⟨rfl,rfl⟩
def Bh(l:AgP)(a:Nat)(most:Int):Abs:=
 match AO 0 (l.drop a)with
 | none=> .tuple #[.string ⟨#[]⟩, .int .i64 0, .int .i64 6]
 | some x=>if most<x.1 then .tuple #[.string ⟨#[]⟩, .int .i64 0, .int .i64 2]
  else if l.length<a+x.2+x.1 then .tuple #[.string ⟨#[]⟩, .int .i64 0, .int .i64 6]
  else .tuple #[.string ⟨((l.drop (a+x.2)).take x.1).toArray⟩, .int .i64 ↑(a+x.2+x.1), .int .i64 0]
set_option maxRecDepth 100000 in
set_option maxHeartbeats 1000000 in
theorem Cy(w:Abt)(v:Abs)(l:AgP)(hr:RB w v l)(a:Nat)(ha:a<=l.length)(most:Int):
  Calls Abu 76 #[v, .int .i64 a, .int .i64 most] w fun e w' =>e = .returned (Bh l a most)/\w=w' :=by
 have HR:=Ac5 hr;obtain⟨ao,cap,rfl,h2,h3⟩:=hr.len;clear hr;have HG:=Ac5 (GW w _ l HR.out a ha);cases hL:AO 0 (l.drop a)with
 | none=>
  have hR:Bh l a most = .tuple #[.string ⟨#[]⟩, .int .i64 0, .int .i64 6]:=by unfold Bh;rw[hL]
  rw[hR];have HL:=Ac5 hL;clear hL hR
  go_enter AfY,Afu
  go_wp2_with fail
  refine HG.out.mono ?_;rintro e w1 ⟨rfl,rfl⟩;rw[HL.out];unfold Ei
  go_wp2_with fail
  go_ret3
  exact⟨rfl,rfl⟩
 | some x=>
  obtain⟨n,m⟩:=x;have hp:=Hb _ _ _ hL;have hlt:=Lb _ _ _ hL;rw[AbS]at hp;have hm9:m<=9:=by have:=hp.2.2;simp at this;exact this
  have b:n<=9223372036854775807:=by
   have h1:128^m<=128^9:=Adb (by decide) hm9;simp only at hlt;omega
  have hm1:1<=m:=hp.1;have hml:a+m<=l.length:=by have:=hp.2.1;simp at this;omega
  have HL:=Ac5 hL;clear hL hlt hp;by_cases hmost:most<n
  ·have hR:Bh l a most = .tuple #[.string ⟨#[]⟩, .int .i64 0, .int .i64 2]:=by unfold Bh;rw[HL.out];simp only[];rw[if_pos hmost]
   rw[hR];clear hR
   go_enter AfY,Afu
   go_wp2_with fail
   refine HG.out.mono ?_;rintro e w1 ⟨rfl,rfl⟩;rw[HL.out];unfold Ei
   go_wp2_with fail
   go_ret3
   exact⟨rfl,rfl⟩
  ·by_cases hlen:l.length<a+m+n
   ·have hR:Bh l a most = .tuple #[.string ⟨#[]⟩, .int .i64 0, .int .i64 6]:=by unfold Bh;rw[HL.out];simp only[];rw[if_neg hmost,if_pos hlen]
    rw[hR];clear hR
    go_enter AfY,Afu
    go_wp2_with fail
    refine HG.out.mono ?_;rintro e w1 ⟨rfl,rfl⟩;rw[HL.out];unfold Ei
    go_wp2_with fail
    go_ret3
    exact⟨rfl,rfl⟩
   ·have hR:Bh l a most = .tuple #[.string ⟨((l.drop (a+m)).take n).toArray⟩, .int .i64 ↑(a+m+n), .int .i64 0]:=by unfold Bh;rw[HL.out];simp only[];rw[if_neg hmost,if_neg hlen]
    rw[hR];clear hR
    go_enter AfY,Afu
    go_wp2_with fail
    refine HG.out.mono ?_;rintro e w1 ⟨rfl,rfl⟩;rw[HL.out];unfold Ei;have hlh:a+m<=a+m+n:=Nat.le_add_right _ _;have hhl:a+m+n<=l.length:=by omega
    go_wp2_with (refine GH (o:=⟨some 38,_,_,_,_,_⟩) rfl _ _ (some _) (some _) rfl GK Pg _ l rfl HR.out (a+m) (a+m+n) hlh hhl (.inr ⟨.i64,rfl⟩) (.inr ⟨.i64,rfl⟩) ?_)
    intro ao' c' hr';have HR' :=Ac5 hr';clear hr'
    go_wp2_with (refine NR (o:=⟨some 39,_,_,_,_,_⟩) rfl _ _ _ rfl GK u5 Wo _ _ rfl HR'.out ?_)
    go_ret3
    exact⟨rfl,rfl⟩
theorem U6:Tryz.prog.underlying 33=some (.array 32 5):=by kernel_rfl
theorem QX:(Tryz.prog.info? 33).map (·.size)=some 32:=by kernel_rfl
theorem Wy:(Tryz.prog.info? 5).map (·.size)=some 1:=by kernel_rfl

def zero32:AgP:=Acy 32 0
theorem EL{l:AgP}(h:l.length=32):(Abv l).toArray.size=32:=by simp[Abv,h]
theorem Aq{l:AgP}(h:l.length=32):(Tryz.prog.info? 33).map (·.size)=some (Abv l).toArray.size:=by rw[EL h];exact QX
theorem Pi:zero32.length=32:=Ace

theorem OD(ρ:AbD->Abs)(d:Option Tmp)(ty:Abz)(pos:String)(af:Array Ack)(w:Abt):(execOp ρ ⟨d, .alloc 33,ty,pos,af,none⟩).run Abu w = .ok (.value (.pointer (some ⟨w.heap.size,0,none⟩))) (w.alloc (.cells (Abv zero32).toArray 33)):=by kernel_rfl

def Dp(l:AgP)(a:Nat):Abs:=
 if l.length-a<32 then .tuple #[.agg (Abv zero32).toArray, .int .i64 0, .int .i64 6]
 else .tuple #[.agg (Abv ((l.drop a).take 32)).toArray, .int .i64 ↑(a+32), .int .i64 0]
set_option maxRecDepth 100000 in
set_option maxHeartbeats 1000000 in
theorem Hd(w:Abt)(v:Abs)(l:AgP)(hr:RB w v l)(a:Nat)(ha:a<=l.length):
  Calls Abu 183 #[v, .int .i64 a] w fun e w' =>e = .returned (Dp l a)/\Ext w w' :=by
 have HR:=Ac5 hr;obtain⟨ao,cap,rfl,h2,h3⟩:=hr.len;clear hr;have hd:decide ((a:Int)<0)=false:=by simp
 have hd2:decide (l.length<a)=false:=by simp;omega
 by_cases hs:l.length-a<32
 ·have hR:Dp l a = .tuple #[.agg (Abv zero32).toArray, .int .i64 0, .int .i64 6]:=by unfold Dp;rw[if_pos hs]
  rw[hR];clear hR
  go_enter Tryz.func183,Tryz.ntmps183
  have HSI:=Ac5 (Aq Pi)
  go_wp2_with (first | (refine HQ (o:=⟨some 4, .alloc _,_,_,_,_⟩) rfl _ _ (OD _ _ _ _ _ _) ?_) | (refine wpList_load_row (o:=⟨some 21,_,_,_,_,_⟩) rfl _ _ rfl w.heap.size rfl _ _ _ _ (heap_alloc_new w _) U6 rfl HSI.out ?_) | (refine Fy (o:=⟨none, .store _ _ _,_,_,_,_⟩) rfl _ _ _ rfl w.heap.size rfl (Abv zero32).toArray 33 rfl (heap_alloc_new w _) HSI.out (Aw zero32) ?_))
  refine bodyPost_ret (v:= .tuple #[.agg (Abv zero32).toArray, .int .i64 0, .int .i64 6]) (HF Tryz.results183 _ _ w.heap.size 33 (Abv zero32).toArray (0,0) _ rfl (heap_alloc_new w _) U6 rfl HSI.out) rfl ⟨rfl,(Aco _ _).alloc (Abx _) _⟩
 ·have hR:Dp l a = .tuple #[.agg (Abv ((l.drop a).take 32)).toArray, .int .i64 ↑(a+32), .int .i64 0]:=by unfold Dp;rw[if_neg hs]
  rw[hR];clear hR
  go_enter Tryz.func183,Tryz.ntmps183
  go_wp2_with (refine HQ (o:=⟨some 4, .alloc _,_,_,_,_⟩) rfl _ _ (OD _ _ _ _ _ _) ?_)
  have hal:a+32<=l.length:=by omega
  obtain⟨w0,hw0⟩:∃w0,w0=w.alloc (.cells (Abv zero32).toArray 33):=⟨_,rfl⟩;have hbox:w0.heap[w.heap.size]? =some (.cells (Abv zero32).toArray 33 (0,0)):=by rw[hw0];exact heap_alloc_new w _
  have hsz:w0.heap.size=w.heap.size+1:=by rw[hw0];simp
  have b:Below w.heap.size w w0:=by rw[hw0];exact(Aco _ _).alloc (Abx _) _
  rw[<-hw0];clear hw0;have c:((l.drop a).take 32).length=32:=by rw[AbR,AbS];omega
  have HL32:=Ac5 c;clear c hd hd2;refine KG [4] (fun n=>if n=4 then [3]else []) (fun w' =>Below w.heap.size w0 w' /\∃cur:Array Abs,cur.size=32/\w'.heap[w.heap.size]? =some (.cells cur 33 (0,0)))
   (fun w1 w2=>w1.grownBy w2 (some w.heap.size)/\((∃cur:Array Abs,cur.size=32/\w1.heap[w.heap.size]? =some (.cells cur 33 (0,0)))->∃cur:Array Abs,cur.size=32/\w2.heap[w.heap.size]? =some (.cells cur 33 (0,0))))
   [Is (.slice (some ⟨w.heap.size,0,none⟩) 32 32),Is (.slice ao l.length cap),Is (.int .i64 a),(fun x w' =>RB w' x (l.drop a)),(fun _ w' =>w'.heap[w.heap.size]? =some (.cells (Abv ((l.drop a).take 32)).toArray 33 (0,0)))]
   (by kernel_rfl) _ _ (by kernel_rfl) (by kernel_rfl) [22,23,24,25,26] (by kernel_rfl)
   (fun w1 w2 h k=>⟨h.1.trans (k.mono (by have:=h.1.size;have:=hsz;omega)),by obtain⟨cur,h1,h2⟩:=h.2;exact⟨cur,h1,(k.block _ (Acg.1 h2).1).trans h2⟩⟩)
   (fun w1 w2 h k=>⟨h.1.grown k.1 (by have:=h.1.size;have:=hsz;omega) (fun _ e=>by cases e;exact Abx _),k.2 h.2⟩) (fun w=>⟨World.grownBy.refl _ _,fun h=>h⟩) ⟨(Aco _ _).drew,_,EL rfl,hbox⟩ ?hst ?hsk ?hs ?hQ
  case hst=>
   refine⟨X5 _,X5 _,X5 _,Stab.rb _,fun v w1 w2 h k=> ?_,trivial⟩;have h' :w1.heap[w.heap.size]? =_:=h;exact(k.block _ (Acg.1 h').1).trans h'
  case hsk=>
   intro n i hn hi hk hne hb;simp at hn;subst hn
   match i,hi,hk,hne,hb with
   | 0,_,_,_,_=>exact X5 _
   | 1,_,_,_,_=>exact X5 _
   | 2,_,_,_,_=>exact X5 _
   | 3,_,hk,_,_=>simp at hk
   | 4,_,_,hne,_=>simp at hne
  case hs=>
   refine⟨?_,?_,?_,?_,?_,trivial⟩
   ·refine FP rfl fun ρ w1 hC h=> ?_;have h4:ρ 4 = .pointer (some ⟨w.heap.size,0,none⟩):=h 4 (by decide);refine AaL (v:= .slice (some ⟨w.heap.size,0,none⟩) 32 32) (w' :=w1) ?_ ⟨AaF _,rfl⟩;clear h hC;simp[execOp,Ab,h4,go_sem]
   ·refine FP rfl fun ρ w1 hC h=> ?_;have h0:ρ 0 = .slice ao l.length cap:=h 0 (by decide);exact⟨AaF _,h0⟩
   ·refine FP rfl fun ρ w1 hC h=> ?_;have h0:ρ 1 = .int .i64 a:=h 1 (by decide);exact⟨AaF _,h0⟩
   ·refine FP rfl fun ρ w1 hC h=> ?_;have h23:ρ 23 = .slice ao l.length cap:=h 23 (by decide);have h24:ρ 24 = .int .i64 a:=h 24 (by decide);have f:RB w1 (Ab ρ (.tmp 23)) l:=by show RB w1 (ρ 23) l;rw[h23];exact HR.out.keep (b.trans hC.1)
    refine ZY GK Pg f a l.length ha (Abx _) (.inr ⟨.i64,by simp[Ab,h24]⟩) (.inl ⟨rfl,rfl⟩) ?_;intro ao' c' hr';rw[Ab8 (by rw[AbS];exact Abx _)]at hr';exact⟨AaF _,hr'⟩
   ·refine FP rfl fun ρ w1 hC h=> ?_;have h22:ρ 22 = .slice (some ⟨w.heap.size,0,none⟩) 32 32:=h 22 (by decide);have h25:RB w1 (ρ 25) (l.drop a):=h 25 (by decide);obtain⟨hC1,cur,hcs,hcb⟩:=hC;have hm:Ad4 (l.drop a).length 32=32:=Nat.min_eq_right (by rw[AbS];exact Nat.le_sub_of_add_le (by rw[Nat.add_comm];exact hal));have hfit:0+Ad4 (l.drop a).length 32<=cur.size:=by rw[hm,hcs];exact Abx _
    refine Aan (.tmp 22) (.tmp 25) (o:=0) GK Wy h22 h25 hcb hfit ?_;have e:(cur.toList.take 0++Abv ((l.drop a).take 32)++cur.toList.drop (0+Ad4 (l.drop a).length 32)).toArray=(Abv ((l.drop a).take 32)).toArray:=by
     have hd0:cur.toList.drop (0+32)= []:=AdD (Afv (by rw[AcZ,hcs]));rw[hm,hd0];simp
    rw[e];have hw:=setRow_heap w1 w.heap.size cur (Abv ((l.drop a).take 32)).toArray 33 (0,0) hcb;exact⟨⟨⟨rfl,rfl,rfl,by simp,fun k _ hk=>setRow_other w1 w.heap.size k _ (fun e=>hk (by rw[e]))⟩,fun _=>⟨_,EL HL32.out,hw⟩⟩,hw⟩
  case hQ=>
   intro u w1 hC hE;obtain⟨-,-,-,-,h26,-⟩:=hE;have hblk:w1.heap[w.heap.size]? =some (.cells (Abv ((l.drop a).take 32)).toArray 33 (0,0)):=h26;clear h26;simp only[Dn,List.foldl_cons,List.foldl_nil,List.setIfInBounds_toArray,List.set_cons_zero,List.set_cons_succ];have hsi:(Tryz.prog.info? 33).map (·.size)=some (Abv ((l.drop a).take 32)).toArray.size:=by rw[EL HL32.out];exact QX
   have HB:=Ac5 hblk;clear hblk;have HSI:=Ac5 hsi;clear hsi
   go_wp2_with (first | (refine wpList_load_row (o:=⟨some 27,_,_,_,_,_⟩) rfl _ _ rfl w.heap.size rfl _ _ _ _ HB.out U6 rfl HSI.out ?_) | (refine Fy (o:=⟨none, .store _ _ _,_,_,_,_⟩) rfl _ _ _ rfl w.heap.size rfl (Abv ((l.drop a).take 32)).toArray 33 rfl HB.out HSI.out (Aw _) ?_))
   refine bodyPost_ret (v:= .tuple #[.agg (Abv ((l.drop a).take 32)).toArray, .int .i64 ↑(a+32), .int .i64 0]) ?_ rfl ⟨rfl,b.trans hC.1⟩;exact HF Tryz.results183 _ _ w.heap.size 33 _ (0,0) _ rfl HB.out U6 rfl HSI.out
def IG(c:UInt8):Bool:=((((((decide (97<=c.toNat))&&(decide (c.toNat<=122)))||((decide (65<=c.toNat))&&(decide (c.toNat<=90))))||((decide (48<=c.toNat))&&(decide (c.toNat<=57))))||(decide (c.toNat=45)))||(decide (c.toNat=95)))||(decide (c.toNat=46))
def He(s:Bs):Bool:=(((decide (s.length<1)||decide (32<s.length))||decide ((s.getD 0 0).toNat=46))||decide ((s.getD 0 0).toNat=45))||decide (s= [72,69,65,68])
def Au(s:Bs):Bool:= !He s&&s.all IG
theorem Pj{s:Bs}(h:He s=true):Au s=false:=by unfold Au;rw[h];rfl
theorem Lc{s:Bs}(h:He s=false):1<=s.length/\s.length<=32:=by
 unfold He at h;simp only[Bool.or_eq_false_iff,decide_eq_false_iff_not]at h;omega
theorem DT{s:Bs}(h:Au s=true):1<=s.length/\s.length<=32:=by
 unfold Au at h;refine Lc ?_;cases hh:He s with
 | false=>rfl
 | true=>rw[hh]at h;cases h
theorem QY{s:Bs}{i:Nat}(hi:i<s.length)(h:IG (s.getD i 0)=false):Au s=false:=by
 unfold Au;rw[Bool.and_eq_false_iff];refine .inr ?_;rw[List.all_eq_false];refine⟨s.getD i 0,?_,by rw[h];decide⟩;rw[AbA,AbG hi];exact Ada hi
theorem S9{α:Type}{l:List α}{f:α->Bool}{i:Nat}(d:α)(hi:i<l.length)(h:(l.take i).all f=true)(h1:f (l.getD i d)=true):(l.take (i+1)).all f=true:=by
 rw[List.take_succ_eq_append_getElem hi,List.all_append,h];rw[AbA,AbG hi]at h1;simp only[Option.getD_some]at h1;simp[h1]
theorem QZ{s:Bs}{i:Nat}(h:He s=false)(hi:s.length<=i)(ha:(s.take i).all IG=true):Au s=true:=by
 unfold Au;rw[h,Ab8 hi]at *;rw[ha];rfl
set_option maxRecDepth 100000
theorem Fd:Tryz.prog.underlying 21=some (.int .i32):=by kernel_rfl
theorem Et:Tryz.prog.underlying 9=some (.string):=by kernel_rfl
theorem JW:Plain Abu 191:=fun _ _=>by kernel_rfl
theorem Pk:Plain Abu 192:=fun _ _=>by kernel_rfl
theorem Pm:Plain Abu 153:=fun _ _=>by kernel_rfl
theorem JX:Plain Abu 130:=fun _ _=>by kernel_rfl
theorem Q1:Plain Abu 88:=fun _ _=>by kernel_rfl
theorem Q2:Plain Abu 87:=fun _ _=>by kernel_rfl
set_option maxHeartbeats 1600000
theorem Pn(w:Abt)(r:Nat):
  Calls Abu 192 #[.int .i32 (r:Int)] w fun e w' =>e = .returned (.bool (MB r))/\Ext w w' :=by
 refine FU (args:= [.int .i32 ((r:Nat):Int)]) Tryz.func192 rfl 17 rfl rfl ?_;have hE:=AaF w;refine gS (XX (a:=(r:Nat)) (b:=(0:Nat)) rfl rfl (E6 _ _ _ _) (gO fun _=>Af (.int .i32 ((r:Nat):Int)) rfl rfl (gT rfl) (fun hG3=>AaM rfl ⟨rfl,rfl⟩) (Av (gO fun _=>Af (.bool (decide ((r)<=(1114111)))) rfl rfl (gT rfl) (fun hG4=>XX (a:=((r:Nat):Int)) (b:=((1114111:Nat):Int)) (Ai rfl hG4) rfl (EG _ .i32 (r) (1114111)) ⟨rfl,rfl⟩) (Av (gS (Yd rfl (fun hA=>(Ai rfl hA)) rfl fun bb5 hbb6=>(gO fun _=>Af (.int .i32 ((r:Nat):Int)) rfl rfl (gT rfl) (fun hG7=>AaM rfl ⟨rfl,rfl⟩) (Av (gO fun _=>Af (.bool (decide ((r)<(55296)))) rfl rfl (gT rfl) (fun hG8=>XX (a:=((r:Nat):Int)) (b:=((55296:Nat):Int)) (Ai rfl hG8) rfl (Bg _ .i32 (r) (55296)) ⟨rfl,rfl⟩) (Av (gO fun _=>Af (.bool (decide ((r)<(55296)))) rfl rfl (gT rfl) (fun hG9=>AaM (Ai rfl hG9) ⟨rfl,rfl⟩) (Av (gO fun _=>Af (.int .i32 ((r:Nat):Int)) rfl rfl (ET rfl) (fun hG10=>AaM rfl ⟨rfl,rfl⟩) (Av (gO fun _=>Af (.bool (decide ((57343)<(r)))) rfl rfl (ET rfl) (fun hG11=>XX (a:=((r:Nat):Int)) (b:=((57343:Nat):Int)) (Ai rfl hG11) rfl (DK _ .i32 (r) (57343)) ⟨rfl,rfl⟩) (Av (gO fun _=>DP ((decide ((r)<(55296)))||(decide ((57343)<(r)))) rfl rfl (gT rfl) (fun hG12=>YE (Ai rfl hG12) rfl (fun hA=>(Ai rfl (FG hG12 (BO hA)))) ⟨rfl,rfl⟩) fun bb13 hbb14=>Av (gS (Yd rfl (fun hA=>(Ai rfl hA)) rfl fun bb15 hbb16=>(AC rfl (vr (.bool (bb15)) rfl) ?_)))))))))))))))))))));subst hbb6 hbb14 hbb16;exact⟨rfl,hE⟩
theorem MF(w:Abt)(c:UInt8):
  Calls Abu 191 #[B8 c] w fun e w' =>e = .returned (Xb (C9 c))/\Ext w w' :=by
 refine FU (args:= [B8 (c)]) Tryz.func191 rfl 40 rfl rfl ?_;have hE:=AaF w;refine gS (XX (a:=((c).toNat:Nat)) (b:=(128:Nat)) rfl rfl (Bg _ _ _ _) ?_);refine cD rfl (fun f=> ?_) fun f=> ?_
 ·refine gS (YL u5 Fd rfl (Wn .i32 (c) (fun n hn=>Es n (by omega))) (JT rfl (vr (NI 0) rfl) (vr (.int .i32 (((c).toNat:Nat):Int)) rfl) (vr (.int .i32 ((0:Nat):Int)) rfl) ?_));refine⟨congrArg AcW ?_,hE⟩;unfold C9;rw[if_pos f];rfl
 refine gS (XX (a:=((c).toNat:Nat)) (b:=(192:Nat)) rfl rfl (E6 _ _ _ _) (gO fun _=>Af (B8 (c)) rfl rfl (gT rfl) (fun hG6=>AaM rfl ⟨rfl,rfl⟩) (Av (gO fun _=>Af (.bool (decide (((c).toNat)<(224)))) rfl rfl (gT rfl) (fun hG7=>XX (a:=(((c).toNat:Nat):Int)) (b:=((224:Nat):Int)) (Ai rfl hG7) rfl (Bg _ .u8 ((c).toNat) (224)) ⟨rfl,rfl⟩) (Av (gS (Yd rfl (fun hA=>(Ai rfl hA)) rfl fun bb8 hbb9=> ?_)))))));refine cB (bb8) rfl (fun g=> ?_) fun g=> ?_
 ·subst hbb9;refine gS (X6 (xv:= .int .u8 (((c).toNat:Nat):Int)) (yv:= .int .u8 ((31:Nat):Int)) rfl rfl rfl (H4 _ _ _ (c.toNat_lt) (by decide)) (gS (YL u5 Fd rfl (Es (((c).toNat)&&&(31)) (Ads Adq (by decide))) (JT rfl (vr (NI 1) rfl) (vr (.int .i32 ((((c).toNat)&&&(31):Nat):Int)) rfl) (vr (.int .i32 ((128:Nat):Int)) rfl) ?_))));refine⟨congrArg AcW ?_,hE⟩;unfold C9;rw[if_neg f];rw[if_pos (by simpa using g)];rfl
 subst hbb9;refine gS (XX (a:=((c).toNat:Nat)) (b:=(224:Nat)) rfl rfl (E6 _ _ _ _) (gO fun _=>Af (B8 (c)) rfl rfl (gT rfl) (fun hG12=>AaM rfl ⟨rfl,rfl⟩) (Av (gO fun _=>Af (.bool (decide (((c).toNat)<(240)))) rfl rfl (gT rfl) (fun hG13=>XX (a:=(((c).toNat:Nat):Int)) (b:=((240:Nat):Int)) (Ai rfl hG13) rfl (Bg _ .u8 ((c).toNat) (240)) ⟨rfl,rfl⟩) (Av (gS (Yd rfl (fun hA=>(Ai rfl hA)) rfl fun bb14 hbb15=> ?_)))))));refine cB (bb14) rfl (fun h=> ?_) fun h=> ?_
 ·subst hbb15;refine gS (X6 (xv:= .int .u8 (((c).toNat:Nat):Int)) (yv:= .int .u8 ((15:Nat):Int)) rfl rfl rfl (H4 _ _ _ (c.toNat_lt) (by decide)) (gS (YL u5 Fd rfl (Es (((c).toNat)&&&(15)) (Ads Adq (by decide))) (JT rfl (vr (NI 2) rfl) (vr (.int .i32 ((((c).toNat)&&&(15):Nat):Int)) rfl) (vr (.int .i32 ((2048:Nat):Int)) rfl) ?_))));refine⟨congrArg AcW ?_,hE⟩;unfold C9;rw[if_neg f];rw[if_neg (by simpa using g)];rw[if_pos (by simpa using h)];rfl
 subst hbb15;refine gS (XX (a:=((c).toNat:Nat)) (b:=(240:Nat)) rfl rfl (E6 _ _ _ _) (gO fun _=>Af (B8 (c)) rfl rfl (gT rfl) (fun hG18=>AaM rfl ⟨rfl,rfl⟩) (Av (gO fun _=>Af (.bool (decide (((c).toNat)<(248)))) rfl rfl (gT rfl) (fun hG19=>XX (a:=(((c).toNat:Nat):Int)) (b:=((248:Nat):Int)) (Ai rfl hG19) rfl (Bg _ .u8 ((c).toNat) (248)) ⟨rfl,rfl⟩) (Av (gS (Yd rfl (fun hA=>(Ai rfl hA)) rfl fun bb20 hbb21=> ?_)))))));refine cB (bb20) rfl (fun i=> ?_) fun i=> ?_
 ·subst hbb21;refine gS (X6 (xv:= .int .u8 (((c).toNat:Nat):Int)) (yv:= .int .u8 ((7:Nat):Int)) rfl rfl rfl (H4 _ _ _ (c.toNat_lt) (by decide)) (gS (YL u5 Fd rfl (Es (((c).toNat)&&&(7)) (Ads Adq (by decide))) (JT rfl (vr (NI 3) rfl) (vr (.int .i32 ((((c).toNat)&&&(7):Nat):Int)) rfl) (vr (.int .i32 ((65536:Nat):Int)) rfl) ?_))));refine⟨congrArg AcW ?_,hE⟩;unfold C9;rw[if_neg f];rw[if_neg (by simpa using g)];rw[if_neg (by simpa using h)];rw[if_pos (by simpa using i)];rfl
 subst hbb21;refine JT rfl (vr (.int .i64 (-1:Int)) rfl) (vr (.int .i32 ((0:Nat):Int)) rfl) (vr (.int .i32 ((0:Nat):Int)) rfl) ?_;refine⟨congrArg AcW ?_,hE⟩;unfold C9;rw[if_neg f];rw[if_neg (by simpa using g)];rw[if_neg (by simpa using h)];rw[if_neg (by simpa using i)];rfl
theorem NW(w:Abt)(l:Bs)(a:Nat)(ha:a<l.length)(hl:l.length<=4611686018427387904):
  Calls Abu 153 #[St l,NI a] w fun e w' =>(∃r b k,e = .returned (.tuple #[.int .i32 ((r:Nat):Int),NI b, .bool k])/\Ee l a=if k=true then some b else none)/\Ext w w' :=by
 refine FU (args:= [St (l),NI a]) Tryz.func153 rfl 62 rfl rfl ?_;have hE:=AaF w;rcases hq:C9 (l.getD a 0)with _ | ⟨n,r,m⟩
 ·refine gS (YQ (l:=l) (i:=a) Et rfl rfl (ha) (gS (X0 JW rfl (((show Calls _ _ _ _ (fun e w2=>e = .returned (.tuple #[.int .i64 ((-1):Int), .int .i32 ((0:Nat):Int), .int .i32 ((0:Nat):Int)])/\Ext w w2)from by have h:=MF w (l.getD a 0);rw[hq]at h;exact h)).mono ?_))));rintro e w4 ⟨rfl,y⟩;refine⟨_,rfl,?_⟩;refine gS (AaH (vs:= [.int .i64 ((-1):Int), .int .i32 ((0:Nat):Int), .int .i32 ((0:Nat):Int)]) rfl rfl (gS (AaH (vs:= [.int .i64 ((-1):Int), .int .i32 ((0:Nat):Int), .int .i32 ((0:Nat):Int)]) rfl rfl (gS (AaH (vs:= [.int .i64 ((-1):Int), .int .i32 ((0:Nat):Int), .int .i32 ((0:Nat):Int)]) rfl rfl (gS (XX rfl rfl (U0 _ .i64 ((-1):Int) ((0:Nat):Int)) (kT (by decide) (gN rfl rfl rfl rfl (gN rfl rfl rfl rfl (gN rfl rfl rfl rfl (gN rfl rfl rfl rfl (gN rfl rfl rfl rfl (gN rfl rfl rfl rfl (gS (Yl rfl rfl (cT rfl (JT rfl (vr (.int .i32 ((0:Nat):Int)) rfl) (vr (NI 0) rfl) (vr (.bool (false)) rfl) ?_))))))))))))))))));have hE:=hE.trans y;exact⟨⟨_,_,_,rfl,QU hq⟩,hE⟩
 obtain⟨p,z,ad,hm⟩:=Pf hq;refine gS (YQ (l:=l) (i:=a) Et rfl rfl (ha) (gS (X0 JW rfl (((show Calls _ _ _ _ (fun e w2=>e = .returned (.tuple #[NI n, .int .i32 ((r:Nat):Int), .int .i32 ((m:Nat):Int)])/\Ext w w2)from by have h:=MF w (l.getD a 0);rw[hq]at h;exact h)).mono ?_))));rintro e ae ⟨rfl,s⟩;refine⟨_,rfl,?_⟩;refine gS (AaH (vs:= [NI n, .int .i32 ((r:Nat):Int), .int .i32 ((m:Nat):Int)]) rfl rfl (gS (AaH (vs:= [NI n, .int .i32 ((r:Nat):Int), .int .i32 ((m:Nat):Int)]) rfl rfl (gS (AaH (vs:= [NI n, .int .i32 ((r:Nat):Int), .int .i32 ((m:Nat):Int)]) rfl rfl (gS (XX (a:=(n:Nat)) (b:=(0:Nat)) rfl rfl (Bg _ _ _ _) (kF (by omega) (gY rfl rfl (gY rfl rfl (gS (YD (l:=l) Et rfl (gY rfl rfl (gY rfl rfl (gS (X6 (xv:=NI l.length) (yv:=NI a) rfl rfl rfl (EX _ _ _ (by omega) (by omega)) (gY rfl rfl (gY rfl rfl (gS (XX (a:=((l.length)-(a):Nat)) (b:=(n:Nat)) rfl rfl (EG _ _ _ _) (gS (Yy rfl rfl ?_))))))))))))))))))))));refine cD rfl (fun g=> ?_) fun g=> ?_
 ·refine JT rfl (vr (.int .i32 ((0:Nat):Int)) rfl) (vr (NI 0) rfl) (vr (.bool (false)) rfl) ?_;have hE:=hE.trans s;exact⟨⟨_,_,_,rfl,Pe hq (of_decide_eq_true (by simpa using g))⟩,hE⟩
 have hs:¬l.length-a<=n:=fun h=>by simp[h]at g
 have hE:=hE.trans s;refine gL (fun(ρ:Ah) (wz:Abt)=>∃i:Nat,∃q:Nat,ρ 0=(St (l):Abs)/\ρ 1=(NI a:Abs)/\ρ 7=(NI n:Abs)/\ρ 9=(.int .i32 ((m:Nat):Int):Abs)/\ρ 30=(NI n:Abs)/\ρ 31=(NI i:Abs)/\ρ 8=(.int .i32 ((q:Nat):Int):Abs)/\Ext w wz/\(i<=n)/\(q<2^(7+6*i))/\(E9 l (a+1) n r=E9 l (a+1+i) (n-i) q)/\True) (fun ρ _=>n-(intOf (ρ 31)).toNat) ⟨0,r,rfl,rfl,rfl,rfl,rfl,rfl,rfl,hE,AbQ _,z,rfl,trivial⟩ ?_;clear hE;rintro aa af ⟨i,q,t,T1,u,v,x,c,f,hE,hi,hqb,ht,-⟩;have q31:=c;refine gS (XX (a:=(i:Nat)) (b:=(n:Nat)) c x (Bg _ _ _ _) ?_);refine cD rfl (fun j=> ?_) fun j=> ?_
 ·have hlt:i<n:=j;refine gS (X6 (xv:=NI a) (yv:=NI 1) T1 rfl rfl (AI _ _ _ (by omega)) (gS (X6 (xv:=NI ((a)+(1))) (yv:=NI i) rfl c rfl (AI _ _ _ (by omega)) (gS (YQ (l:=l) (i:=((a)+(1))+(i)) Et t rfl (by omega) (gS (X6 (xv:= .int .u8 (((l.getD (((a)+(1))+(i)) 0).toNat:Nat):Int)) (yv:= .int .u8 ((192:Nat):Int)) rfl rfl rfl (H4 _ _ _ (UInt8.toNat_lt _) (by decide)) (gS (XX (a:=(((l.getD (((a)+(1))+(i)) 0).toNat)&&&(192):Nat)) (b:=(128:Nat)) rfl rfl (Bb _ _ _ _) ?_)))))))));refine cD rfl (fun o=> ?_) fun o=> ?_
  ·refine JT rfl (vr (.int .i32 ((0:Nat):Int)) rfl) (vr (NI 0) rfl) (vr (.bool (false)) rfl) ?_;exact⟨⟨_,_,_,rfl,S8 hq (ht.trans (QT hlt o))⟩,hE⟩
  refine gS (X6 (xv:= .int .i32 ((q:Nat):Int)) (yv:= .int .u64 ((6:Nat):Int)) f rfl rfl (Vq _ (q) _ (6) (by decide) (IT hqb hlt p)) (gS (X6 (xv:= .int .u8 (((l.getD (((a)+(1))+(i)) 0).toNat:Nat):Int)) (yv:= .int .u8 ((63:Nat):Int)) rfl rfl rfl (H4 _ _ _ (UInt8.toNat_lt _) (by decide)) (gS (YL u5 Fd rfl (Es (((l.getD (((a)+(1))+(i)) 0).toNat)&&&(63)) (U5 _)) (gS (X6 (xv:= .int .i32 (((q)*2^(6):Nat):Int)) (yv:= .int .i32 ((((l.getD (((a)+(1))+(i)) 0).toNat)&&&(63):Nat):Int)) rfl rfl rfl (Wx _ ((q)*2^(6)) (((l.getD (((a)+(1))+(i)) 0).toNat)&&&(63)) (IT hqb hlt p) (U5 _)) (gS (X6 (xv:=NI i) (yv:=NI 1) c rfl rfl (AI _ _ _ (by omega)) (gK (Acz ⟨i+1,(q*2^6|||((l.getD (a+1+i) 0).toNat&&&63)),t,T1,u,v,x,rfl,rfl,hE,by omega,NV hqb,ht.trans (Pd hlt (Decidable.of_not_not o)),trivial⟩ ?_)))))))))));show n-(intOf (NI ((i)+(1)))).toNat<n-(intOf (aa 31)).toNat;rw[q31];simp only[intOf,AbZ];omega
 have hni:¬i<n:=j;refine gS (X6 (xv:=NI a) (yv:=NI n) T1 u rfl (AI _ _ _ (by omega)) (gS (X6 (xv:=NI ((a)+(n))) (yv:=NI 1) rfl rfl rfl (AI _ _ _ (by omega)) (gS (XX (a:=(q:Nat)) (b:=(m:Nat)) f v (E6 _ _ _ _) (gO fun _=>Af (.int .i32 ((q:Nat):Int)) rfl rfl (gT rfl) (fun hG27=>AaM f ⟨rfl,rfl⟩) (Av (gO fun _=>Cc (.bool (MB q)) rfl rfl (gT rfl) (fun hG28=>X0 Pk (Ai rfl hG28) ((Pn _ q).mono (by rintro e w2 ⟨rfl,hx⟩;exact⟨_,rfl,rfl,hx⟩))) fun ag ab=>Av (gS (Yd rfl (fun hA=>(Ai rfl hA)) rfl fun bb32 hbb33=>(JT rfl f (vr (NI (((a)+(n))+(1))) rfl) (vr (.bool (bb32)) rfl) ?_)))))))))));subst hbb33;have hE:=hE.trans ab;exact⟨⟨_,_,_,rfl,Vs hq hs (ht.trans (by rw[show n-i=0 by omega];rfl))⟩,hE⟩
theorem Ld(w:Abt)(l:Bs)(hl:l.length<=4611686018427387904):
  Calls Abu 130 #[St l] w fun e w' =>(∃p,e = .returned (.tuple #[NI p,NI (if Ef l 0=true then 0 else 5)]))/\Ext w w' :=by
 refine gG (args:= [St (l)]) Tryz.func130 rfl 22 rfl rfl ?_;have hE:=AaF w;refine gL (fun(ρ:Ah) (wz:Abt)=>∃p:Nat,ρ 0=(St (l):Abs)/\ρ 2=(NI p:Abs)/\Ext w wz/\(p<=l.length)/\(Ef l 0=Ef l p)/\True) (fun ρ _=>l.length-(intOf (ρ 2)).toNat) ⟨0,rfl,rfl,hE,AbQ _,rfl,trivial⟩ ?_;clear hE;rintro j m ⟨p,f,c,hE,hp,ht,-⟩;have q2:=c;refine gS (YD (l:=l) Et f (gS (XX (a:=(p:Nat)) (b:=(l.length:Nat)) c rfl (Bg _ _ _ _) ?_)));refine cD rfl (fun g=> ?_) fun g=> ?_
 ·have hlt:p<l.length:=g;refine gS (X1 Pm f c ((NW _ l p hlt hl).mono ?_));rintro e n ⟨⟨r,b,k,rfl,hd⟩,i⟩;refine⟨_,rfl,?_⟩;refine gS (AaH (vs:= [.int .i32 ((r:Nat):Int),NI b, .bool (k)]) rfl rfl (gS (AaH (vs:= [.int .i32 ((r:Nat):Int),NI b, .bool (k)]) rfl rfl (gS (AaH (vs:= [.int .i32 ((r:Nat):Int),NI b, .bool (k)]) rfl rfl (gS (Yf rfl ?_)))))));refine cB (!(k)) rfl (fun h=> ?_) fun h=> ?_
  ·have hk:k=false:=by simpa using h
   rw[hk,if_neg (by decide)]at hd;refine DB rfl c (vr (NI 5) rfl) ?_;have hE:=hE.trans i;exact⟨⟨_,by rw[ht,QV hlt hd];rfl⟩,hE⟩
  have hk:k=true:=by simpa using h
  rw[if_pos hk]at hd;have hE:=hE.trans i;refine gK (Acz ⟨b,f,rfl,hE,(KM hd).2,ht.trans (La hlt hd),trivial⟩ ?_);show l.length-(intOf (NI b)).toNat<l.length-(intOf (j 2)).toNat;rw[q2];have:=KM hd;simp only[intOf,AbZ];omega
 have hlt:=g;refine DB rfl (vr (NI 0) rfl) (vr (NI 0) rfl) ?_;exact⟨⟨_,by rw[ht,Jl (show ¬p<l.length by omega)];rfl⟩,hE⟩
theorem MG(w:Abt)(r:Nat):
  Calls Abu 88 #[.int .i32 (r:Int)] w fun e w' =>e = .returned (.bool true)/\Ext w w' :=by
 refine gG (args:= [.int .i32 ((r:Nat):Int)]) Tryz.func88 rfl 3 rfl rfl ?_;have hE:=AaF w;refine AC rfl (vr (.bool (true)) rfl) ?_;exact⟨rfl,hE⟩
theorem Q3(w:Abt)(l:Bs)(hl:l.length<=4611686018427387904):
  Calls Abu 87 #[St l, .func (.func 88) #[] #[]] w fun e w' =>e = .returned (.bool (Ef l 0))/\Ext w w' :=by
 refine gG (args:= [St (l), .func (.func 88) #[] #[]]) Tryz.func87 rfl 25 rfl rfl ?_;have hE:=AaF w;rcases hT:Ef l 0 with _ | _
 ·refine gS (X0 JX rfl (((show Calls _ _ _ _ (fun e w2=>(∃p,e = .returned (.tuple #[NI p,NI 5]))/\Ext w w2)from by have h:=Ld w l hl;rw[hT]at h;exact h)).mono ?_));rintro e w5 ⟨⟨p0,rfl⟩,s⟩;refine⟨_,rfl,?_⟩;refine gS (AaH (vs:= [NI p0,NI 5]) rfl rfl (gS (AaH (vs:= [NI p0,NI 5]) rfl rfl (gS (XX (a:=(5:Nat)) (b:=(0:Nat)) rfl rfl (Bb _ _ _ _) (kT (by decide) (cT rfl (AC rfl (vr (.bool (false)) rfl) ?_))))))));have hE:=hE.trans s;exact⟨by first | rfl | rw[hT],hE⟩
 refine gS (X0 JX rfl (((show Calls _ _ _ _ (fun e w2=>(∃p,e = .returned (.tuple #[NI p,NI 0]))/\Ext w w2)from by have h:=Ld w l hl;rw[hT]at h;exact h)).mono ?_));rintro e k ⟨⟨p0,rfl⟩,t⟩;refine⟨_,rfl,?_⟩;refine gS (AaH (vs:= [NI p0,NI 0]) rfl rfl (gS (AaH (vs:= [NI p0,NI 0]) rfl rfl (gS (XX (a:=(0:Nat)) (b:=(0:Nat)) rfl rfl (Bb _ _ _ _) (kF (by decide) (cF rfl (gS (Z1 (l:=l) Et rfl fun f u ae m n af=> ?_)))))))));have c:=AaF k;have hE:=hE.trans t;have v:=hE.size;have o:=m;clear m;have ag:f<u.heap.size:=by omega
 have hE:=hE.trans n;have c:=c.trans n;refine gL (fun(ρ:Ah) (wz:Abt)=>∃p:Nat,ρ 0=(St (l):Abs)/\ρ 1=(.func (.func 88) #[] #[]:Abs)/\ρ 6=(NI 0:Abs)/\ρ 15=(.bool (false):Abs)/\ρ 17=(PQ f 0:Abs)/\Ext w wz/\Ext k wz/\wz.heap[f]? =some (.stringIter ⟨l.toArray⟩ p)/\True) (fun ρ wz=>l.length-wz.iterPos f) ⟨0,rfl,rfl,rfl,rfl,rfl,hE,c,o,trivial⟩ ?_;clear o;clear hE;rintro ah x ⟨p,y,T1,z,aa,i,hE,c,hI,-⟩;have hI0:=JU hI;by_cases hlt:p<l.length
 ·refine gS (Aae (l:=l) (p:=p) i hI hlt fun ab g ai aj q r ak=> ?_);clear hI;have hI:=q;clear q;have al:=bl hI;refine gS (AaH (vs:= [.bool (true),NI p, .int .i32 ((g:Nat):Int)]) rfl rfl (cT rfl (gS (AaH (vs:= [.bool (true),NI p, .int .i32 ((g:Nat):Int)]) rfl rfl (gS (Ys Q1 (caps:= #[]) T1 #[.int .i32 ((g:Nat):Int)] (by simp only[AbI,AbL,AbP,Ach,Ab2,Acd];exact congrArg Ab3 (E7 rfl)) ((MG _ g).mono ?_)))))));rintro e ac ⟨rfl,j⟩;refine⟨_,rfl,?_⟩;have hE:=Ad hE r (Abw v (by omega));have hE:=hE.trans j;have c:=Ad c r (Abw (Abx _) (by omega));have c:=c.trans j;have hI:=eb j hI;refine gS (Yf rfl (cF rfl (gK (Acz ⟨ab,y,T1,z,aa,i,hE,c,hI,trivial⟩ ?_))));show l.length-ac.iterPos f<l.length-x.iterPos f;rw[JU hI,hI0];omega
 refine gS (Z2 (l:=l) (p:=p) i hI hlt (gS (AaH (vs:= [.bool (false)]) rfl rfl (cF rfl (AC rfl (vr (.bool (true)) rfl) ?_)))));exact⟨by first | rfl | rw[hT],hE⟩
theorem MH(w:Abt)(l:Bs):
  Calls Abu 35 #[St l] w fun e w' =>e = .returned (.bool (Ch l))/\Ext w w' :=by
 refine FU (args:= [St (l)]) Tryz.func35 rfl 10 rfl rfl ?_;have hE:=AaF w;refine gS (YD (l:=l) Et rfl (gS (XX (a:=(l.length:Nat)) (b:=(256:Nat)) rfl rfl (EG _ _ _ _) (gO fun _=>Af (St (l)) rfl rfl (gT rfl) (fun hG3=>AaM rfl ⟨rfl,rfl⟩) (Av (gO fun _=>Cc (.bool (Ef l 0)) rfl rfl (gT rfl) (fun hG4=>X1 Q2 (Ai rfl hG4) rfl ((Q3 _ l (by first | omega | (simp only[gA,gB,gC,gD,gE]at hG4;omega))).mono (by rintro e w2 ⟨rfl,hx⟩;exact⟨_,rfl,rfl,hx⟩))) fun f c=>Av (gS (Yd rfl (fun hA=>(Ai rfl hA)) rfl fun bb8 hbb9=>(AC rfl (vr (.bool (bb8)) rfl) ?_)))))))));subst hbb9;have hE:=hE.trans c;exact⟨rfl,hE⟩
open Go.WideMaps (KeyLaw)
structure KL (P : AbN) (k : Abz) (OK : Abs -> Prop) : Prop where
 check:∀(w:Abt) (em:Bool) {v:Abs},OK v->(Instr.checkKey em 10000 k v).run P w = .ok () w
 find:∀(w:Abt) {x:Abs},OK x->∀es:List AdO,(∀e∈es,OK e.key) ->
  ((Instr.findKey k x es).run P w = .ok none w/\∀e∈es,e.key≠x)\/∃j e,(Instr.findKey k x es).run P w = .ok (some (j,e.val)) w/\es[j]? =some e/\e.key=x
 stays:∀(w:Abt) {v:Abs},OK v->(Instr.keyThatStays v v).run P w = .ok v w
theorem Zy{P:AbN}{k:Abz}{d:TypeDesc}(hd:P.underlying k=some d):KL P k (Aes d):=
 ⟨fun w em _ h=>MapKept.run_checkKey hd h em 9999,fun w x h es he=>by
  rcases MapKept.findNow_spec h es 0 he with ⟨h1,h2⟩ | ⟨j,e,h1,h2,h3⟩
  ·exact .inl ⟨Agm hd h1,h2⟩
  ·rw[Adc]at h1;exact .inr ⟨j,e,Agm hd h1,h2,h3⟩,fun w _ h=>MapKept.run_keyThatStays h⟩
section
variable {α β : Type} (ek : α -> Abs) (ev : β -> Abs) (D : α -> Prop)
structure Xc (G : α -> Option β) (es : List AdO) : Prop where
 keys:(es.map (·.key)).Nodup
 ent:∀e∈es,∃a y,D a/\e.key=ek a/\e.val=ev y/\G a=some y
 all:∀a y,G a=some y->D a/\∃e∈es,e.key=ek a
def MapF(w:Abt)(b:Nat)(G:α->Option β):Prop:=∃es clock,w.heap[b]? =some (.map es.toArray clock)/\Xc ek ev D G es/\AeU es.toArray clock
end
theorem NX{es es' :List AdO}{c:Nat}(hs:es'.Sublist es)(h:AeU es.toArray c):AeU es'.toArray c:=by
 obtain⟨h1,h2,h3⟩:=h;exact⟨fun x hx=>h1 x (hs.subset hx),(hs.map _).nodup h2,(hs.map _).nodup h3⟩
def updM{α β:Type}[DecidableEq α](G:α->Option β)(a:α)(y:Option β)(c:α):Option β:=if c=a then y else G c
section
variable {α β : Type} {ek : α -> Abs} {ev : β -> Abs} {D : α -> Prop} {P : AbN} {w w' : Abt} {b : Nat} {G : α -> Option β}
theorem MapF.keep(h:MapF ek ev D w b G)(k:Ext w w'):MapF ek ev D w' b G:=by
 obtain⟨es,c,h2,h3⟩:=h;exact⟨es,c,YF k h2,h3⟩
theorem MapF.lt(h:MapF ek ev D w b G):b<w.heap.size:=by
 obtain⟨es,c,h2,h3⟩:=h;exact(Acg.1 h2).1
theorem MapF.other{r:Option Nat}(h:MapF ek ev D w b G)(k:w.grownBy w' r)(hr:r≠some b):MapF ek ev D w' b G:=by
 have hl:=h.lt;obtain⟨es,c,h2,h3⟩:=h;exact⟨es,c,(k.block b hl (fun e=>hr e.symm)).trans h2,h3⟩
abbrev AaU:=@MapF.other
theorem Aaf{v v' :Abs}(h:MapF ek ev D w b G)(g:Grew w w' v v')(hv:v.ownBlock≠some b):MapF ek ev D w' b G:=h.other g.by_ hv
theorem Aag(ek:α->Abs)(ev:β->Abs)(D:α->Prop)(w:Abt):MapF ek ev D (w.alloc (.map #[] 0)) w.heap.size (fun _=>none):=
 ⟨[],0,heap_alloc_new w _,⟨by simp,by simp,fun _ _ h=>by cases h⟩,MapKept.stamped_empty 0⟩
section
variable {t K E : Abz} {OK : Abs -> Prop} (L : KL P K OK) (hD : ∀ a, D a -> OK (ek a)) (hi : ∀ a c, ek a = ek c -> a = c) (ht : P.underlying t = some (.map K E))
include L hD hi ht
theorem MapF.look{z:Abs}(hz:∀u:Abt,(zeroValue E).run P u = .ok z u)(h:MapF ek ev D w b G){a:α}(ha:D a)(ok:Bool):
  (Agy t (.map (some b)) (ek a) ok).run P w = .ok (if ok then .tuple #[(G a).elim z ev, .bool (G a).isSome]else(G a).elim z ev) w:=by
 obtain⟨es,c,hb,H,hS⟩:=h;have hkeys:∀e∈es,OK e.key:=fun e he=>by
  obtain⟨q,y,k1,k2,-⟩:=H.ent e he;rw[k2];exact hD q k1
 rcases L.find w (hD a ha) es hkeys with ⟨f1,f2⟩ | ⟨j,f,f1,f2,f3⟩
 ·have hG:G a=none:=by
   cases hG:G a with
   | none=>rfl
   | some y=>
    obtain⟨-,e,he,hek⟩:=H.all a y hG;exact absurd hek (f2 e he)
  cases ok <;> simp[Agy,run_underlying ht,Adn hb,L.check w _ (hD a ha),f1,hz,Acj,hG]
 ·obtain⟨q,y,k1,k2,k3,k4⟩:=H.ent f (AdS f2);have:q=a:=hi _ _ (k2.symm.trans f3);subst this;cases ok <;> simp[Agy,run_underlying ht,Adn hb,L.check w _ (hD q ha),f1,Acj,k4,k3]
variable [DecidableEq α]
omit hi in
theorem MapF.put(h:MapF ek ev D w b G){a:α}(ha:D a)(y:β):
  ∃w',(AfP t (.map (some b)) (ek a) (ev y)).run P w = .ok () w' /\MapF ek ev D w' b (updM G a (some y))/\w.grownBy w' (some b)/\w'.heap.size=w.heap.size:=by
 obtain⟨es,c,hb,H,hS⟩:=h;have hkeys:∀e∈es,OK e.key:=fun e he=>by
  obtain⟨q,y,k1,k2,-⟩:=H.ent e he;rw[k2];exact hD q k1
 have hblt:b<w.heap.size:=(Acg.1 hb).1;have hgr:∀o,w.grownBy { w with heap:=w.heap.setIfInBounds b o } (some b):=fun o=>⟨rfl,rfl,rfl,by simp,fun i _ hi=>by simp only[Adj];rw[if_neg (fun e=>hi (by rw[e]))]⟩;have hnew:∀o,({ w with heap:=w.heap.setIfInBounds b o } :Abt).heap[b]? =some o:=fun o=>by simp[hblt]
 rcases L.find w (hD a ha) es hkeys with ⟨f1,f2⟩ | ⟨j,g,f1,f2,f3⟩
 ·have hnone:∀x,G a≠some x:=fun x hx=>by
   obtain⟨-,e,he,hek⟩:=H.all a x hx;exact f2 e he hek
  refine⟨{ w with heap:=w.heap.setIfInBounds b (.map (es++ [({ key:=ek a,val:=ev y,born:=c } :AdO)]).toArray (c+1)) },?_,⟨_,_,hnew _,⟨?_,?_,?_⟩,by have:=MapKept.stamped_push hS (key:=ek a) (val:=ev y) (fun x hx=>f2 x (by simpa using hx));simpa using this⟩,hgr _,by simp⟩
  ·simp[AfP,run_underlying ht,Adn hb,L.check w false (hD a ha),f1,Ad9 _ hb,Acj]
  ·simp only[List.map_append,AbL,AbP];refine List.nodup_append.2 ⟨H.keys,by simp,fun x hx z hz e=> ?_⟩;obtain⟨f,he1,rfl⟩:=Acn.1 hx;simp at hz;exact f2 f he1 (e.trans hz)
  ·intro e he;rcases List.mem_append.1 he with h1 | h1
   ·obtain⟨q,z,k1,k2,k3,k4⟩:=H.ent e h1;refine⟨q,z,k1,k2,k3,?_⟩;unfold updM;rw[if_neg (fun f=>f2 e h1 (by rw[k2,f]))];exact k4
   ·rw[Ab9.1 h1];exact⟨a,y,ha,rfl,rfl,by unfold updM;rw[if_pos rfl]⟩
  ·intro q z hq;unfold updM at hq;split at hq
   ·rename_i f
    subst f;exact⟨ha,_,List.mem_append_right _ (Ab9.2 rfl),rfl⟩
   ·obtain⟨k1,e,he,hek⟩:=H.all q z hq;exact⟨k1,e,List.mem_append_left _ he,hek⟩
 ·obtain⟨q0,y0,k1,k2,k3,k4⟩:=H.ent g (AdS f2);have hjl:j<es.length:=(AbW.1 f2).1;have hkeq:(es.modify j fun e=> { e with key:=ek a,val:=ev y }).map (·.key)=es.map (·.key):=by
   rw[Go.ChangeMaps.modify_eq_set _ _ _ _ f2,List.map_set];exact Go.WideElems.set_self _ _ _ (by rw[List.getElem?_map,f2];simp[f3])
  have hj:es.toArray[j]? =some g:=by simpa using f2
  refine⟨{ w with heap:=w.heap.setIfInBounds b (.map (es.modify j fun e=> { e with key:=ek a,val:=ev y }).toArray c) },?_,⟨_,_,hnew _,⟨?_,?_,?_⟩,by have:=MapKept.stamped_modify hS j (fun e=> { e with key:=ek a,val:=ev y }) (fun _ _=>rfl) (fun e _ he=>by rw[hj]at he;cases he;exact f3.symm);rwa [List.modify_toArray]at this⟩,hgr _,by simp⟩
  ·simp[AfP,run_underlying ht,Adn hb,L.check w false (hD a ha),f1,f2,f3,L.stays w (hD a ha),Ad9 _ hb,Acj]
  ·rw[hkeq];exact H.keys
  ·intro e he;rw[Go.ChangeMaps.modify_eq_set _ _ _ _ f2]at he;obtain⟨i,hil,hie⟩:=AcX.1 he;rw[List.getElem_set]at hie;split at hie
   ·subst hie;exact⟨a,y,ha,rfl,rfl,by unfold updM;rw[if_pos rfl]⟩
   ·rename_i hne
    have hil2:i<es.length:=by simpa using hil
    obtain⟨q,z,m1,m2,m3,m4⟩:=H.ent e (hie▸Ada hil2);refine⟨q,z,m1,m2,m3,?_⟩;unfold updM;rw[if_neg ?_]
    ·exact m4
    ·intro f;subst f
     apply hne
     have hn:=H.keys;have k:(es.map (·.key))[j]'(by simpa using hjl)=(es.map (·.key))[i]'(by simpa using hil2):=by
      simp only[List.getElem_map];rw[hie,m2,<-f3];exact congrArg MapEntry.key (AbW.1 f2).2
     exact(List.getElem_inj hn).1 k
  ·intro q z hq;have hmem:∀x,x∈es.map (·.key)->∃e∈(es.modify j fun e=> { e with key:=ek a,val:=ev y }),e.key=x:=fun x hx=>by
    rw[<-hkeq]at hx;obtain⟨e,he,rfl⟩:=Acn.1 hx;exact⟨e,he,rfl⟩
   unfold updM at hq;split at hq
   ·rename_i f
    subst f;exact⟨ha,hmem _ (Acn.2 ⟨g,AdS f2,f3⟩)⟩
   ·obtain⟨k1,e,he,hek⟩:=H.all q z hq;exact⟨k1,hmem _ (Acn.2 ⟨e,he,hek⟩)⟩
theorem MapF.del{ty:Abz}(h:MapF ek ev D w b G){a:α}(ha:D a):
  ∃w',(AfQ #[t,K] ty #[.map (some b),ek a]).run P w = .ok (.tuple #[]) w' /\MapF ek ev D w' b (updM G a none)/\w.grownBy w' (some b)/\w'.heap.size=w.heap.size:=by
 obtain⟨es,c,hb,H,hS⟩:=h;have hkeys:∀e∈es,OK e.key:=fun e he=>by
  obtain⟨q,y,k1,k2,-⟩:=H.ent e he;rw[k2];exact hD q k1
 have hblt:b<w.heap.size:=(Acg.1 hb).1;have hgr:∀o,w.grownBy { w with heap:=w.heap.setIfInBounds b o } (some b):=fun o=>⟨rfl,rfl,rfl,by simp,fun i _ hi=>by simp only[Adj];rw[if_neg (fun e=>hi (by rw[e]))]⟩;have hnew:∀o,({ w with heap:=w.heap.setIfInBounds b o } :Abt).heap[b]? =some o:=fun o=>by simp[hblt]
 rcases L.find w (hD a ha) es hkeys with ⟨f1,f2⟩ | ⟨j,k,f1,f2,f3⟩
 ·have hG:G a=none:=by
   cases hG:G a with
   | none=>rfl
   | some y=>
    obtain⟨-,e,he,hek⟩:=H.all a y hG;exact absurd hek (f2 e he)
  have hU:updM G a none=G:=by
   funext x
   unfold updM;split
   ·rename_i e;rw[e,hG]
   ·rfl
  rw[hU];refine⟨{ w with heap:=w.heap.setIfInBounds b (.map es.toArray c) },?_,⟨_,_,hnew _,H,hS⟩,hgr _,by simp⟩;simp[AfQ,run_underlying ht,Adn hb,L.check w _ (hD a ha),f1,Ad9 _ hb,Acj]
 ·have hjl:j<es.length:=(AbW.1 f2).1;have hne:∀e∈es.eraseIdx j,e.key≠ek a:=fun e he hk=>by
   obtain⟨i,hil,hie⟩:=AeX.1 he;obtain⟨hij,hie⟩:=hie;have g:(es.map (·.key))[j]'(by simpa using hjl)=(es.map (·.key))[i]'(by simpa using hil):=by
    simp only[List.getElem_map];rw[hie,hk,<-f3];exact congrArg MapEntry.key (AbW.1 f2).2
   exact hij ((List.getElem_inj H.keys).1 g).symm
  refine⟨{ w with heap:=w.heap.setIfInBounds b (.map (es.eraseIdx j).toArray c) },?_,⟨_,_,hnew _,⟨?_,?_,?_⟩,NX (Aeg _ _) hS⟩,hgr _,by simp⟩
  ·simp[AfQ,run_underlying ht,Adn hb,L.check w _ (hD a ha),f1,Ad9 _ hb,Acj]
  ·exact H.keys.sublist ((Aeg _ _).map _)
  ·intro e he;obtain⟨q,z,m1,m2,m3,m4⟩:=H.ent e ((Aeg _ _).subset he);refine⟨q,z,m1,m2,m3,?_⟩;unfold updM;rw[if_neg (fun f=>hne e he (by rw[m2,f]))];exact m4
  ·intro q z hq;unfold updM at hq;split at hq
   ·cases hq
   ·rename_i hqa
    obtain⟨k1,e,he,hek⟩:=H.all q z hq;refine⟨k1,e,?_,hek⟩;obtain⟨i,hil,hie⟩:=AcX.1 he;refine AeX.2 ⟨i,hil,fun f=> ?_,hie⟩;subst f
    apply hqa
    refine hi _ _ (hek.symm.trans ?_);rw[<-f3,<-hie];exact congrArg MapEntry.key (AbW.1 f2).2
end
end
theorem Cj{a b:Nat}(h:a≠b):some a≠some b:=fun e=>h (Option.some.inj e)
def Cv(u v:Abs):Prop:=∀k,u.ownBlock=some k->v.ownBlock≠some k
section
variable {N B : Nat} {r : Option Nat} {w w' w1 w0 : Abt} {e t : Abz}
theorem L9{z n:Nat}{v:Abs}{xs:List Abs}(ho:w.ownsRow B e z v n xs)(k:w.grownBy w1 r)(ha:∀k,r=some k->v.ownBlock≠some k):w1.ownsRow B e z v n xs:=
 ho.kept k (by
  cases hv:v.ownBlock with
  | none=>exact .inl rfl
  | some g=>exact .inr (fun e=>ha g e.symm hv))
theorem JY{u v:Abs}{b:Nat}{e' :Abz}{z n z' n' :Nat}{xs ys:List Abs}(hu:w.ownsRow b e z u n xs)(hv:w'.ownsRow w.heap.size e' z' v n' ys):Cv u v:=fun k h1 h2=>by
 have:=(hu.lt k h1).2;have:=(hv.lt k h2).1;omega
theorem NY{u v v' :Abs}{b:Nat}{z n:Nat}{xs:List Abs}(gr:Grew w w' v v')(ha:Cv v u)(hu:w.ownsRow b e z u n xs):Cv v' u:=fun k h1 h2=>by
 rcases gr.fresh k h1 with h3 | h3
 ·exact ha k h3 h2
 ·have:=(hu.lt k h2).2;omega
theorem Jm{v v' u:Abs}{b:Nat}{z n:Nat}{xs:List Abs}(hu:w.ownsRow b e z u n xs)(gr:Grew w w' v v')(ha:Cv v u):w'.ownsRow b e z u n xs:=L9 hu gr.by_ ha
theorem GX{α:Type}{k b:Nat}{enc:α->List Abs}{v v' u:Abs}{l:List α}(hu:OG b e k enc w u l)(gr:Grew w w' v v')(ha:Cv v u):OG b e k enc w' u l:=⟨hu.1,Jm hu.2 gr ha⟩
end
theorem Q4:Plain Abu 128:=fun _ _=>by kernel_rfl
theorem Q5:Plain Abu 129:=fun _ _=>by kernel_rfl
theorem Ta(w:Abt)(c:UInt8):
  Calls Abu 129 #[B8 c] w fun e w' =>e = .returned (.bool (IG c))/\Ext w w' :=by
 refine FU (args:= [B8 (c)]) Tryz.func129 rfl 37 rfl rfl ?_;have hE:=AaF w;refine gS (XX (a:=((c).toNat:Nat)) (b:=(97:Nat)) rfl rfl (E6 _ _ _ _) (gO fun _=>Af (B8 (c)) rfl rfl (gT rfl) (fun hG3=>AaM rfl ⟨rfl,rfl⟩) (Av (gO fun _=>Af (.bool (decide (((c).toNat)<=(122)))) rfl rfl (gT rfl) (fun hG4=>XX (a:=(((c).toNat:Nat):Int)) (b:=((122:Nat):Int)) (Ai rfl hG4) rfl (EG _ .u8 ((c).toNat) (122)) ⟨rfl,rfl⟩) (Av (gS (Yd rfl (fun hA=>(Ai rfl hA)) rfl fun bb5 hbb6=>(gO fun _=>Af (B8 (c)) rfl rfl (gF rfl) (fun hG7=>AaM rfl ⟨rfl,rfl⟩) (Av (gO fun _=>Af (.bool (decide ((65)<=((c).toNat)))) rfl rfl (gF rfl) (fun hG8=>XX (a:=(((c).toNat:Nat):Int)) (b:=((65:Nat):Int)) (Ai rfl hG8) rfl (E6 _ .u8 ((c).toNat) (65)) ⟨rfl,rfl⟩) (Av (gO fun _=>Af (.bool (decide ((65)<=((c).toNat)))) rfl rfl (gF rfl) (fun hG9=>AaM (Ai rfl hG9) ⟨rfl,rfl⟩) (Av (gO fun _=>Af (B8 (c)) rfl rfl (Fz rfl) (fun hG10=>AaM rfl ⟨rfl,rfl⟩) (Av (gO fun _=>Af (.bool (decide (((c).toNat)<=(90)))) rfl rfl (Fz rfl) (fun hG11=>XX (a:=(((c).toNat:Nat):Int)) (b:=((90:Nat):Int)) (Ai rfl hG11) rfl (EG _ .u8 ((c).toNat) (90)) ⟨rfl,rfl⟩) (Av (gO fun _=>DP ((decide ((65)<=((c).toNat)))&&(decide (((c).toNat)<=(90)))) rfl rfl (gF rfl) (fun hG12=>Yz (Ai rfl hG12) (fun hA=>(Ai rfl (FG hG12 hA))) rfl ⟨rfl,rfl⟩) fun bb13 hbb14=>Av (gS (Ye rfl rfl (fun hA=>(Ai rfl (BO hA))) fun bb15 hbb16=>(gO fun _=>Af (B8 (c)) rfl rfl (gF rfl) (fun hG17=>AaM rfl ⟨rfl,rfl⟩) (Av (gO fun _=>Af (.bool (decide ((48)<=((c).toNat)))) rfl rfl (gF rfl) (fun hG18=>XX (a:=(((c).toNat:Nat):Int)) (b:=((48:Nat):Int)) (Ai rfl hG18) rfl (E6 _ .u8 ((c).toNat) (48)) ⟨rfl,rfl⟩) (Av ?_))))))))))))))))))))))));refine gO fun _=>Af (.bool (decide ((48)<=((c).toNat)))) rfl rfl (gF rfl) (fun hG19=>AaM (Ai rfl hG19) ⟨rfl,rfl⟩) (Av (gO fun _=>Af (B8 (c)) rfl rfl (Fz rfl) (fun hG20=>AaM rfl ⟨rfl,rfl⟩) (Av (gO fun _=>Af (.bool (decide (((c).toNat)<=(57)))) rfl rfl (Fz rfl) (fun hG21=>XX (a:=(((c).toNat:Nat):Int)) (b:=((57:Nat):Int)) (Ai rfl hG21) rfl (EG _ .u8 ((c).toNat) (57)) ⟨rfl,rfl⟩) (Av (gO fun _=>DP ((decide ((48)<=((c).toNat)))&&(decide (((c).toNat)<=(57)))) rfl rfl (gF rfl) (fun hG22=>Yz (Ai rfl hG22) (fun hA=>(Ai rfl (FG hG22 hA))) rfl ⟨rfl,rfl⟩) fun bb23 hbb24=>Av (gS (Ye rfl rfl (fun hA=>(Ai rfl (BO hA))) fun bb25 hbb26=>(gO fun _=>Af (B8 (c)) rfl rfl (gF rfl) (fun hG27=>AaM rfl ⟨rfl,rfl⟩) (Av (gO fun _=>Af (.bool (decide (((c).toNat:Nat)=(45)))) rfl rfl (gF rfl) (fun hG28=>XX (a:=(((c).toNat:Nat):Int)) (b:=((45:Nat):Int)) (Ai rfl hG28) rfl (AH _ .u8 ((c).toNat) (45)) ⟨rfl,rfl⟩) (Av (gS (Ye rfl rfl (fun hA=>(Ai rfl (BO hA))) fun bb29 hbb30=>(gO fun _=>Af (B8 (c)) rfl rfl (gF rfl) (fun hG31=>AaM rfl ⟨rfl,rfl⟩) (Av (gO fun _=>Af (.bool (decide (((c).toNat:Nat)=(95)))) rfl rfl (gF rfl) (fun hG32=>XX (a:=(((c).toNat:Nat):Int)) (b:=((95:Nat):Int)) (Ai rfl hG32) rfl (AH _ .u8 ((c).toNat) (95)) ⟨rfl,rfl⟩) (Av (gS (Ye rfl rfl (fun hA=>(Ai rfl (BO hA))) fun bb33 hbb34=>(gO fun _=>Af (B8 (c)) rfl rfl (gF rfl) (fun hG35=>AaM rfl ⟨rfl,rfl⟩) (Av (gO fun _=>Af (.bool (decide (((c).toNat:Nat)=(46)))) rfl rfl (gF rfl) (fun hG36=>XX (a:=(((c).toNat:Nat):Int)) (b:=((46:Nat):Int)) (Ai rfl hG36) rfl (AH _ .u8 ((c).toNat) (46)) ⟨rfl,rfl⟩) (Av ?_))))))))))))))))))))))));refine gS (Ye rfl rfl (fun hA=>(Ai rfl (BO hA))) fun bb37 hbb38=>(AC rfl (vr (.bool (bb37)) rfl) ?_));subst hbb6 hbb14 hbb16 hbb24 hbb26 hbb30 hbb34 hbb38;exact⟨rfl,hE⟩
theorem Vt(w:Abt)(s:Bs)(hl:s.length≠64):
  Calls Abu 128 #[St s] w fun e w' =>e = .returned (.bool false)/\Ext w w' :=by
 refine gG (args:= [St (s)]) Tryz.func128 rfl 11 rfl rfl ?_;have hE:=AaF w;refine gS (YD (l:=s) Et rfl (gS (XX (a:=(s.length:Nat)) (b:=(64:Nat)) rfl rfl (AH _ _ _ _) (kF (hl) (gS (Yy rfl rfl (AC rfl (vr (.bool (false)) rfl) ?_)))))));exact⟨rfl,hE⟩
theorem Jo(w:Abt)(s:Bs)(hs:s.length<=9223372036854775807):
  Calls Abu 84 #[St s] w fun e w' =>e = .returned (.bool (Au s))/\Ext w w' :=by
 refine FU (args:= [St (s)]) Tryz.func84 rfl 41 rfl rfl ?_;have hE:=AaF w;refine gS (YD (l:=s) Et rfl (gS (XX (a:=(s.length:Nat)) (b:=(1:Nat)) rfl rfl (Bg _ _ _ _) (gO fun _=>Af (St (s)) rfl rfl (gF rfl) (fun hG4=>AaM rfl ⟨rfl,rfl⟩) (Av (gO fun _=>Af (NI s.length) rfl rfl (gF rfl) (fun hG5=>YD (l:=s) Et (Ai rfl hG5) ⟨rfl,rfl⟩) (Av (gO fun _=>Af (.bool (decide ((32)<(s.length)))) rfl rfl (gF rfl) (fun hG6=>XX (a:=((s.length:Nat):Int)) (b:=((32:Nat):Int)) (Ai rfl hG6) rfl (DK _ .i64 (s.length) (32)) ⟨rfl,rfl⟩) (Av (gS (Ye rfl rfl (fun hA=>(Ai rfl (BO hA))) fun bb7 hbb8=>(gO fun _=>Af (St (s)) rfl rfl (gF rfl) (fun hG9=>AaM rfl ⟨rfl,rfl⟩) (Av (gO fun _=>Af (B8 (s.getD (0) 0)) rfl rfl (gF rfl) (fun hG10=>YQ (l:=s) (i:=0) Et (Ai rfl hG10) rfl (by first | omega | (simp only[hbb8,gA,gB,gC,gD,gE]at hG10;omega)) ⟨rfl,rfl⟩) (Av (gO fun _=>Af (.bool (decide (((s.getD (0) 0).toNat:Nat)=(46)))) rfl rfl (gF rfl) (fun hG11=>XX (a:=(((s.getD (0) 0).toNat:Nat):Int)) (b:=((46:Nat):Int)) (Ai rfl hG11) rfl (AH _ .u8 ((s.getD (0) 0).toNat) (46)) ⟨rfl,rfl⟩) (Av (gS (Ye rfl rfl (fun hA=>(Ai rfl (BO hA))) fun bb12 hbb13=>(gO fun _=>Af (St (s)) rfl rfl (gF rfl) (fun hG14=>AaM rfl ⟨rfl,rfl⟩) (Av (gO fun _=>Af (B8 (s.getD (0) 0)) rfl rfl (gF rfl) (fun hG15=>YQ (l:=s) (i:=0) Et (Ai rfl hG15) rfl (by first | omega | (simp only[hbb8,hbb13,gA,gB,gC,gD,gE]at hG15;omega)) ⟨rfl,rfl⟩) (Av (gO fun _=>Af (.bool (decide (((s.getD (0) 0).toNat:Nat)=(45)))) rfl rfl (gF rfl) (fun hG16=>XX (a:=(((s.getD (0) 0).toNat:Nat):Int)) (b:=((45:Nat):Int)) (Ai rfl hG16) rfl (AH _ .u8 ((s.getD (0) 0).toNat) (45)) ⟨rfl,rfl⟩) (Av (gS (Ye rfl rfl (fun hA=>(Ai rfl (BO hA))) fun bb17 hbb18=> ?_)))))))))))))))))))))))))));refine gO fun _=>Af (St (s)) rfl rfl (gF rfl) (fun hG19=>AaM rfl ⟨rfl,rfl⟩) (Av (gO fun _=>Af (.bool (decide (s=(([72,69,65,68]:AgP):AgP)))) rfl rfl (gF rfl) (fun hG20=>YR (l:=s) (m:=([72,69,65,68]:AgP)) (.inl rfl) (Ai rfl hG20) rfl (decide (s=(([72,69,65,68]:AgP):AgP))) rfl ⟨rfl,rfl⟩) (Av (gS (Ye rfl rfl (fun hA=>(Ai rfl (BO hA))) fun bb21 hbb22=>(gO fun _=>Af (St (s)) rfl rfl (gF rfl) (fun hG23=>AaM rfl ⟨rfl,rfl⟩) (Av (gO fun _=>Cc (.bool (false)) rfl rfl (gF rfl) (fun hG24=>X0 Q4 (Ai rfl hG24) ((Vt _ s (by first | omega | (simp only[hbb8,hbb13,hbb18,hbb22,gA,gB,gC,gD,gE]at hG24;omega))).mono (by rintro e w2 ⟨rfl,hx⟩;exact⟨_,rfl,rfl,hx⟩))) fun q h=>Av (gS (Ye rfl rfl (fun hA=>(Ai rfl (BO hA))) fun bb28 hbb29=> ?_))))))))));refine cB (bb28) rfl (fun c=> ?_) fun c=> ?_
 ·subst hbb8 hbb13 hbb18 hbb22 hbb29;rw[Bool.or_false]at c;refine AC rfl (vr (.bool (false)) rfl) ?_;have hE:=hE.trans h;exact⟨by rw[Pj (s:=s) c],hE⟩
 subst hbb8 hbb13 hbb18 hbb22 hbb29;rw[Bool.or_false]at c;have hh:He s=false:=c;have hsl:=Lc hh;have hE:=hE.trans h;refine gS (YD (l:=s) Et rfl (gL (fun(ρ:Ah) (wz:Abt)=>∃i:Nat,ρ 0=(St (s):Abs)/\ρ 31=(NI s.length:Abs)/\ρ 32=(NI i:Abs)/\Ext w wz/\(i<=s.length)/\((s.take i).all IG=true)/\True) (fun ρ _=>s.length-(intOf (ρ 32)).toNat) ⟨0,rfl,rfl,rfl,hE,AbQ _,by simp,trivial⟩ ?_));clear hE;rintro o r ⟨i,j,k,f,hE,hi,ha,-⟩;have q32:=f;refine gS (XX (a:=(i:Nat)) (b:=(s.length:Nat)) f k (Bg _ _ _ _) ?_);refine cD rfl (fun p=> ?_) fun p=> ?_
 ·refine gS (YQ (l:=s) (i:=i) Et j f (by omega) (gS (X0 Q5 rfl ((Ta _ (s.getD (i) 0)).mono ?_))));rintro e t ⟨rfl,n⟩;refine⟨_,rfl,?_⟩;refine gS (Yf rfl ?_);refine cB (!(IG (s.getD (i) 0))) rfl (fun g=> ?_) fun g=> ?_
  ·refine AC rfl (vr (.bool (false)) rfl) ?_;have hE:=hE.trans n;exact⟨by rw[QY (show i<s.length by omega) (Xa g)],hE⟩
  have hE:=hE.trans n;refine gS (X6 (xv:=NI i) (yv:=NI 1) f rfl rfl (AI _ _ _ (by omega)) (gK (Acz ⟨i+1,j,k,rfl,hE,by omega,S9 0 (by omega) ha (W9 g),trivial⟩ ?_)));show s.length-(intOf (NI ((i)+(1)))).toNat<s.length-(intOf (o 32)).toNat;rw[q32];simp only[intOf,AbZ];omega
 refine AC rfl (vr (.bool (true)) rfl) ?_;exact⟨by rw[QZ hh (by omega) ha],hE⟩
section
variable {P : AbN} {K : Abs -> Abt -> Prop} {ρ : Ah} {w : Abt} {d : Option Tmp} {ty : Abz} {pos : String} {af : Array Ack} {gd : Option (Nat × Bool)}
variable {α β : Type} {ek : α -> Abs} {ev : β -> Abs} {D : α -> Prop} {b : Nat} {G : α -> Option β}
variable {t Kt E : Abz} {OK : Abs -> Prop}
theorem Zz(L:KL P Kt OK)(hD:∀a,D a->OK (ek a))(hi:∀a c,ek a=ek c->a=c)(ht:P.underlying t=some (.map Kt E)){z:Abs}(hz:∀u:Abt,(zeroValue E).run P u = .ok z u){x y:AbD}{a:α} 
  (hm:Ab ρ x = .map (some b)) (hy:Ab ρ y=ek a) (h:MapF ek ev D w b G) (ha:D a) (hk:K ((G a).elim z ev) w):
  Yk P K ((execOp (Ab ρ) ⟨d, .lookup t x y false,ty,pos,af,gd⟩).run P w):=by
 have hrun:=h.look L hD hi ht hz ha false;refine AaL (v:=(G a).elim z ev) (w' :=w) ?_ hk;unfold execOp;simp only[hm,hy,AbC,hrun,AbB,AbE];rfl
theorem Zm[DecidableEq α](L:KL P Kt OK)(hD:∀a,D a->OK (ek a))(ht:P.underlying t=some (.map Kt E)){x y z:AbD}{a:α}{c:β} 
  (hm:Ab ρ x = .map (some b)) (hy:Ab ρ y=ek a) (hz:Ab ρ z=ev c) (h:MapF ek ev D w b G) (ha:D a) (hk:∀w',MapF ek ev D w' b (updM G a (some c))->w.grownBy w' (some b)->w'.heap.size=w.heap.size->K undef w'):
  Yk P K ((execOp (Ab ρ) ⟨d, .mapUpdate t x y z,ty,pos,af,gd⟩).run P w):=by
 obtain⟨w',hrun,h1,h2,h3⟩:=h.put L hD ht ha c;have hr:(execOp (Ab ρ) ⟨d, .mapUpdate t x y z,ty,pos,af,gd⟩).run P w = .ok .skip w' \/(execOp (Ab ρ) ⟨d, .mapUpdate t x y z,ty,pos,af,gd⟩).run P w = .ok (.value undef) w' :=by
  unfold execOp;simp only[hm,hy,hz,AbC,hrun,AbB,AbE];simp
 rcases hr with hr | hr <;> rw[hr] <;> exact hk w' h1 h2 h3
theorem ZU[DecidableEq α](L:KL P Kt OK)(hD:∀a,D a->OK (ek a))(hi:∀a c,ek a=ek c->a=c)(ht:P.underlying t=some (.map Kt E)){x y:AbD}{a:α} 
  (hm:Ab ρ x = .map (some b)) (hy:Ab ρ y=ek a) (h:MapF ek ev D w b G) (ha:D a) (hk:∀w',MapF ek ev D w' b (updM G a none)->w.grownBy w' (some b)->w'.heap.size=w.heap.size->K (.tuple #[]) w'):
  Yk P K ((execOp (Ab ρ) ⟨d, .call ⟨.builtin .delete,#[x,y],#[t,Kt]⟩,ty,pos,af,gd⟩).run P w):=by
 obtain⟨w',hrun,h1,h2,h3⟩:=h.del L hD hi ht (ty:=ty) ha;refine AaL (v:= .tuple #[]) (w' :=w') ?_ (hk w' h1 h2 h3);unfold execOp;simp only[resolve,invoke,builtin,AbC,AbE,AbB,AbI,AbL,AbP,hm,hy,hrun]
theorem Y3(ek:α->Abs)(ev:β->Abs)(D:α->Prop)(hk:∀g w',w.heap.size=g->MapF ek ev D w' g (fun _=>none)->Ext w w' ->w'.heap.size=g+1->K (.map (some g)) w'):
  Yk P K ((execOp (Ab ρ) ⟨d, .makeMap t none,ty,pos,af,gd⟩).run P w):=by
 refine AaL (v:= .map (some w.heap.size)) (w' :=w.alloc (.map #[] 0)) ?_ (hk _ _ rfl (Aag ek ev D w) ((Aco _ _).alloc (Abx _) _) (by simp));unfold execOp;simp[Instr.makeMap,newObj,Acj];rfl
theorem YN(L:KL P Kt OK)(hD:∀a,D a->OK (ek a))(hi:∀a c,ek a=ek c->a=c)(ht:P.underlying t=some (.map Kt E)){z:Abs}(hz:∀u:Abt,(zeroValue E).run P u = .ok z u){x y:AbD}{a:α}{c:β} 
  (hm:Ab ρ x = .map (some b)) (hy:Ab ρ y=ek a) (h:MapF ek ev D w b G) (ha:D a) (hG:G a=some c) (hk:K (ev c) w):Yk P K ((execOp (Ab ρ) ⟨d, .lookup t x y false,ty,pos,af,gd⟩).run P w):=
 Zz L hD hi ht hz hm hy h ha (by rw[hG];exact hk)
theorem Zr(L:KL P Kt OK)(hD:∀a,D a->OK (ek a))(hi:∀a c,ek a=ek c->a=c)(ht:P.underlying t=some (.map Kt E)){z:Abs}(hz:∀u:Abt,(zeroValue E).run P u = .ok z u){x y:AbD}{a:α} 
  (hm:Ab ρ x = .map (some b)) (hy:Ab ρ y=ek a) (h:MapF ek ev D w b G) (ha:D a) (hG:G a=none) (hk:K z w):Yk P K ((execOp (Ab ρ) ⟨d, .lookup t x y false,ty,pos,af,gd⟩).run P w):=
 Zz L hD hi ht hz hm hy h ha (by rw[hG];exact hk)
theorem Yk.build{parts:Array (Nat × AbD)}{vs:Array (Nat × Abs)}{v:Abs}(hv:(parts.map fun(i,x)=>(i,Ab ρ x))=vs)(hr:∀w:Abt,(Acv t vs).run P w = .ok v w)(hk:K v w):
  Yk P K ((execOp (Ab ρ) ⟨d, .build t parts,ty,pos,af,gd⟩).run P w):=by
 refine AaL (v:=v) (w' :=w) ?_ hk;unfold execOp;simp only[hv,hr,AbC,AbB,AbE]
theorem YY{i0:Nat}{x0:AbD}{a v:Abs}(h0:Ab ρ x0=a)(hr:∀w:Abt,(Acv t #[(i0,a)]).run P w = .ok v w)(hk:K v w):Yk P K ((execOp (Ab ρ) ⟨d, .build t #[(i0,x0)],ty,pos,af,gd⟩).run P w):=
 Yk.build (by simp[h0]) hr hk
theorem YJ{i0 i1:Nat}{x0 x1:AbD}{a b v:Abs}(h0:Ab ρ x0=a)(h1:Ab ρ x1=b)(hr:∀w:Abt,(Acv t #[(i0,a),(i1,b)]).run P w = .ok v w)(hk:K v w):Yk P K ((execOp (Ab ρ) ⟨d, .build t #[(i0,x0),(i1,x1)],ty,pos,af,gd⟩).run P w):=
 Yk.build (by simp[h0,h1]) hr hk
theorem RG.slice{k:Nat}{enc:α->List Abs}{v:Abs}{l:List α}(h:RG k enc w v l):∃ao n c,v = .slice ao n c:=by
 obtain⟨ao,c,rfl⟩:=h.len;exact⟨ao,_,c,rfl⟩
abbrev Abk:=@RG.slice
theorem Zi{fs}(hu:P.underlying t=some (.struct fs)){x:AbD}{v:Abs}(hx:Ab ρ x=v)(hk:K (.iface t v) w):Yk P K ((execOp (Ab ρ) ⟨d, .makeInterface t x,ty,pos,af,gd⟩).run P w):=by
 refine AaL (v:= .iface t v) (w' :=w) ?_ hk;unfold execOp;simp[Instr.makeInterface,hx,run_underlying hu,Acj]
theorem YS{k:Nat}{enc:α->List Abs}{e:Abz}{x:AbD}{a:α}(hx:Ab ρ x = .agg (enc a).toArray)(hl:(enc a).length=k) 
  (hr:∀(cs:Array Abs),cs.size=k->∀w:Abt,(Ab1 t 1 #[(0, .agg cs)]).run P w = .ok (.slice (some ⟨w.heap.size,0,none⟩) 1 1) (w.alloc (.cells cs e)))
  (hk:∀v w',RG k enc w' v [a]->Ext w w' ->K v w'):Yk P K ((execOp (Ab ρ) ⟨d, .buildSlice t 1 #[(0,x)],ty,pos,af,gd⟩).run P w):=by
 have hE:Ext w (w.alloc (.cells (enc a).toArray e)):=(Aco _ _).alloc (Abx _) _;refine AaL (v:= .slice (some ⟨w.heap.size,0,none⟩) 1 1) (w' :=w.alloc (.cells (enc a).toArray e)) ?_ (hk _ _ (Zq hl (heap_alloc_new w _)) hE);unfold execOp;simp only[AbI,AbL,AbP,hx,AbC,hr _ (show(enc a).toArray.size=k by rw[Ab5];exact hl),AbB,AbE]
theorem RG.elem{k:Nat}{enc:α->List Abs}{v:Abs}{l:List α}(h:RG k enc w v l)(dd:α){i:Nat}(hi:i<l.length):(enc (l.getD i dd)).length=k:=by
 refine h.1 _ ?_;rw[AbA,AbG hi];exact Ada hi
abbrev AaT:=@RG.elem
theorem RG.cut{k:Nat}{enc:α->List Abs}{v:Abs}{l:List α}(h:∀x∈l,(enc x).length=k){a c:Nat}(ha:a<=c)(hc:c<=l.length)(hR:Reads w k v (c-a) (((l.flatMap enc).drop (a*k)).take ((c-a)*k))):RG k enc w v ((l.drop a).take (c-a)):=by
 have hd:∀(l:List α) (n:Nat),(∀x∈l,(enc x).length=k)->(l.flatMap enc).drop (n*k)=(l.drop n).flatMap enc:=by
  intro l n
  induction n generalizing l with
  | zero=>intro _;simp
  | succ n ih=>
   intro h;cases l with
   | nil=>simp
   | cons x r=>
    have hx:=h x (by simp);rw[Acl,List.drop_succ_cons,<-ih r (fun y hy=>h y (by simp[hy])),show(n+1)*k=(enc x).length+n*k by rw[hx,AcN];omega,List.drop_append,AdD (by omega),AdA,Acd]
 have htk:∀(l:List α) (n:Nat),(∀x∈l,(enc x).length=k)->(l.flatMap enc).take (n*k)=(l.take n).flatMap enc:=by
  intro l n
  induction n generalizing l with
  | zero=>intro _;simp
  | succ n ih=>
   intro h;cases l with
   | nil=>simp
   | cons x r=>
    have hx:=h x (by simp);rw[Acl,List.take_succ_cons,Acl,<-ih r (fun y hy=>h y (by simp[hy])),show(n+1)*k=(enc x).length+n*k by rw[hx,AcN];omega,List.take_append,Ab8 (by omega),AdA]
 refine⟨fun x hx=>h x (Aen (List.mem_of_mem_take hx)),?_⟩;rw[hd l a h,htk _ _ (fun x hx=>h x (Aen hx))]at hR;rw[show((l.drop a).take (c-a)).length=c-a by rw[AbR,AbS];omega];exact hR
theorem ZL{k:Nat}{enc:α->List Abs}{e:Abz}(ht:P.underlying t=some (.slice e))(he:∀w' :Abt,(sizeOf e).run P w' = .ok k w'){x lo:AbD}{v:Abs}{xs:List α}(hx:Ab ρ x=v)(h:RG k enc w v xs){kd:AcG}{l:Nat}(hlo:Ab ρ lo = .int kd (l:Int))(hl:l<=xs.length) 
  (hk:∀v',RG k enc w v' (xs.drop l)->v'.ownBlock=v.ownBlock->K v' w):Yk P K ((execOp (Ab ρ) ⟨d, .slice t x (some lo) none none,ty,pos,af,gd⟩).run P w):=by
 obtain⟨ao,c,⟨hrun,hb⟩,hR⟩:=Cl ht he h.2 (some (.int kd l)) none l xs.length hl (Abx _) (.inr ⟨kd,rfl⟩) (.inl ⟨rfl,rfl⟩);have hR' :=RG.cut h.1 hl (Abx _) hR;rw[Ab8 (by rw[AbS];exact Abx _)]at hR';refine AaL (v:= .slice ao (xs.length-l) c) (w' :=w) ?_ (hk _ hR' hb);unfold execOp;simp only[hx,hlo,AcO,Adl,hrun,AbC,AbE,AbB]
theorem ZM{k:Nat}{enc:α->List Abs}{e:Abz}(ht:P.underlying t=some (.slice e))(he:∀w' :Abt,(sizeOf e).run P w' = .ok k w'){x hi:AbD}{v:Abs}{xs:List α}(hx:Ab ρ x=v)(h:RG k enc w v xs){kd:AcG}{n:Nat}(hhi:Ab ρ hi = .int kd (n:Int))(hl:n<=xs.length) 
  (hk:∀v',RG k enc w v' (xs.take n)->v'.ownBlock=v.ownBlock->K v' w):Yk P K ((execOp (Ab ρ) ⟨d, .slice t x none (some hi) none,ty,pos,af,gd⟩).run P w):=by
 obtain⟨ao,c,⟨hrun,hb⟩,hR⟩:=Cl ht he h.2 none (some (.int kd n)) 0 n (AbQ _) hl (.inl ⟨rfl,rfl⟩) (.inr ⟨kd,rfl⟩);have hR' :=RG.cut h.1 (AbQ _) hl hR;rw[AdX,Nat.sub_zero]at hR';refine AaL (v:= .slice ao (n-0) c) (w' :=w) ?_ (hk _ hR' hb);unfold execOp;simp only[hx,hhi,AcO,Adl,hrun,AbC,AbE,AbB]
theorem X4{f:FuncId}(hp:Plain P f){x0:AbD}{a:Abs}{at_:Array Abz}{J:List PanicEntry->Abt->Prop}(h0:Ab ρ x0=a) 
  (h:Calls P f #[a] w fun e w' =>match e with | .returned v=>K v w' | .panicked ch=>J ch w' | .outgrown=>False):Yp P K J ((execOp (Ab ρ) ⟨d, .call ⟨.value (.func f),#[x0],at_⟩,ty,pos,af,gd⟩).run P w):=
 Yp.call hp [a] (by simp[h0]) h
theorem Y6{f:FuncId}(hp:Plain P f){x0 x1:AbD}{a b:Abs}{at_:Array Abz}{J:List PanicEntry->Abt->Prop}(h0:Ab ρ x0=a)(h1:Ab ρ x1=b) 
  (h:Calls P f #[a,b] w fun e w' =>match e with | .returned v=>K v w' | .panicked ch=>J ch w' | .outgrown=>False):Yp P K J ((execOp (Ab ρ) ⟨d, .call ⟨.value (.func f),#[x0,x1],at_⟩,ty,pos,af,gd⟩).run P w):=
 Yp.call hp [a,b] (by simp[h0,h1]) h
end
section
variable {P : AbN} {K : Abs -> Abt -> Prop} {ρ : Ah} {w : Abt} {d : Option Tmp} {ty : Abz} {pos : String} {af : Array Ack} {gd : Option (Nat × Bool)}
theorem Z3{f:FuncId}{at_:Array Abz}{x y:AbD}{a b v:Abs}(hx:Ab ρ x=a)(hy:Ab ρ y=b)(hr:(callFunc f #[a,b]).run P w = .ok (.value v) w)(hk:K v w):Yk P K ((execOp (Ab ρ) ⟨d, .call ⟨.value (.func f),#[x,y],at_⟩,ty,pos,af,gd⟩).run P w):=by
 refine AaL (v:=v) (w' :=w) ?_ hk;have hf:Ab ρ (.func f) = .func (.func f) #[] #[]:=rfl;unfold execOp;simp[resolve,hf,Deferred.ofValue,invoke,hx,hy,hr]
end
section
variable {P : AbN} {w : Abt}
theorem Aaq{g:Nat}{l:AgP}{t:Abz}{fr:Nat × Nat}(h:w.heap[g]? =some (.cells (Abv l).toArray t fr))(hl:l.length<=9223372036854775807):RB w (.slice (some ⟨g,0,none⟩) l.length l.length) l:=
 ⟨by simp[Abv],_,_,rfl,Abx _,by unfold maxLen;omega,(fun h=>by cases h),fun a ha j u hu=>by
  cases ha;rw[AcT,Adc];exact Ac h hu⟩
theorem Aah{g n:Nat}{l:AgP}{t:Abz}{fr:Nat × Nat}(h:w.heap[g]? =some (.cells (Abv l).toArray t fr))(hn:l.length=n)(hl:n<=9223372036854775807):RB w (.slice (some ⟨g,0,none⟩) n n) l:=by
 subst hn;exact Aaq h hl
end
def Ag(x:B4):Bool:=decide (x.1=Acy 32 0)
theorem Q6{α:Type}{l:List α}{i:Nat}(d:α)(h:i<l.length):l.drop i=l.getD i d :: l.drop (i+1):=by
 rw[Adt h,AbA,AbG h];rfl
theorem Ej{l:AgP}(h:(Abv l).length=32):l.length=32:=by rwa [AbH]at h
section
variable {P : AbN} {K : Abs -> Abt -> Prop} {ρ : Ah} {w : Abt} {d : Option Tmp} {ty : Abz} {pos : String} {af : Array Ack} {gd : Option (Nat × Bool)}
variable {α β : Type} {ek : α -> Abs} {ev : β -> Abs} {D : α -> Prop} {b : Nat} {G : α -> Option β}
variable {t Kt E : Abz} {OK : Abs -> Prop}
theorem Zn[DecidableEq α](L:KL P Kt OK)(hD:∀a,D a->OK (ek a))(ht:P.underlying t=some (.map Kt E)){x y z:AbD}{a:α}{c:β} 
  (hm:Ab ρ x = .map (some b)) (hy:Ab ρ y=ek a) (hz:Ab ρ z=ev c) (h:MapF ek ev D w b G) (ha:D a) (hk:∀w',MapF ek ev D w' b (updM G a (some c))->w.grownBy w' (some b)->w'.heap.size=w.heap.size->K undef w'):
  Yk P K ((execOp (Ab ρ) ⟨d, .insert t x y z,ty,pos,af,gd⟩).run P w):=by
 obtain⟨w',hrun,h1,h2,h3⟩:=h.put L hD ht ha c;have hr:(execOp (Ab ρ) ⟨d, .insert t x y z,ty,pos,af,gd⟩).run P w = .ok .skip w' \/(execOp (Ab ρ) ⟨d, .insert t x y z,ty,pos,af,gd⟩).run P w = .ok (.value undef) w' :=by
  unfold execOp;simp only[hm,hy,hz,AbC,hrun,AbB,AbE];simp
 rcases hr with hr | hr <;> rw[hr] <;> exact hk w' h1 h2 h3
theorem Aai{t:Abz}{i0 i1 i2:Nat}{x0 x1 x2:AbD}{a b c v:Abs}(h0:Ab ρ x0=a)(h1:Ab ρ x1=b)(h2:Ab ρ x2=c)(hr:∀w:Abt,(Acv t #[(i0,a),(i1,b),(i2,c)]).run P w = .ok v w)(hk:K v w):Yk P K ((execOp (Ab ρ) ⟨d, .build t #[(i0,x0),(i1,x1),(i2,x2)],ty,pos,af,gd⟩).run P w):=
 Yk.build (by simp[h0,h1,h2]) hr hk
end
theorem Mk:KL Abu 5 (Aes (.int .u8)):=Zy (by kernel_rfl)
theorem Ml:∀n:UInt8,True->Aes (.int .u8) (B8 n):=fun n _=>by first | exact⟨_,rfl⟩ | simp[Aes]
theorem Wz{a b:UInt8}(h:B8 a=B8 b):a=b:=by
 injection h with _ h
 exact UInt8.toNat_inj.1 (Int.ofNat.inj h)
def nE(l:List AF)(i:Nat):Bool:=((!Au (l.getD i dNmd).name)||Ag (l.getD i dNmd).id)||(decide (0<i)&&(!Ab4 (l.getD (i-1) dNmd).name (l.getD i dNmd).name))
open Classical in
noncomputable def BS(l:List AF):Bool:=decide ((∀j,j<l.length->nE l j=false)/\l.length<=64)
theorem Hf{l:List AF}{i:Nat}(hi:l.length<=i)(h:∀j,j<i->nE l j=false):BS l=decide (l.length<=64):=by
 classical
 unfold BS;by_cases h2:l.length<=64
 ·rw[decide_eq_true h2,decide_eq_true ⟨fun j hj=>h j (by omega),h2⟩]
 ·rw[decide_eq_false h2,decide_eq_false (fun k=>h2 k.2)]
theorem Po{l:List AF}{i:Nat}(hi:i<l.length)(h:nE l i=true):BS l=false:=by
 classical
 exact decide_eq_false (fun k=>by have:=k.1 i hi;rw[h]at this;cases this)
theorem OE{p:Nat->Bool}{i:Nat}(h:∀j,j<i->p j=false)(h1:p i=false):∀j,j<i+1->p j=false:=fun j hj=>by
 by_cases e:j<i
 ·exact h j e
 ·obtain rfl:j=i:=by omega
  exact h1
def DL(k:UInt8):Bool:=(decide (k.toNat=1)||decide (k.toNat=2))||decide (k.toNat=3)
def Gx(l:List A5)(i:Nat):Bool:=((!DL (l.getD i At).kind)||(!Ch (l.getD i At).note))||decide (32<(l.getD i At).name.length)
noncomputable def Ib(r:As):Bool:=((!BS r.branches)||(!BS r.tags))||decide (64<r.log.length)
noncomputable def GY(r:As):Bool:=(decide (r.head≠ [])&&((!Au r.head)||(!Ag r.at_)))||(decide (r.head= [])&&Ag r.at_)
open Classical in
noncomputable def AE(r:As):Bool:=(!Ib r)&&((!GY r)&&decide (∀j,j<r.log.length->Gx r.log j=false))
theorem Tb{r:As}(h:Ib r=true):AE r=false:=by unfold AE;rw[h];rfl
theorem Tc{r:As}(h1:Ib r=false)(h:GY r=true):AE r=false:=by unfold AE;rw[h1,h];rfl
theorem Pp{r:As}{i:Nat}(h1:Ib r=false)(h2:GY r=false)(hi:i<r.log.length)(h:Gx r.log i=true):AE r=false:=by
 classical
 unfold AE;rw[h1,h2,decide_eq_false (fun k=>by have:=k i hi;rw[h]at this;cases this)];rfl
theorem FH{r:As}{i:Nat}(h1:Ib r=false)(h2:GY r=false)(hi:r.log.length<=i)(h:∀j,j<i->Gx r.log j=false):AE r=true:=by
 classical
 unfold AE;rw[h1,h2,decide_eq_true (fun j hj=>h j (by omega))];rfl
structure RefsAt (w : Abt) (x : Ae) : Prop where
 branches:RG 33 nmdC w x.2.branches x.1.branches
 tags:RG 33 nmdC w x.2.tags x.1.tags
 log:RG 67 entC w x.2.log x.1.log
theorem RefsAt.keep{w w' :Abt}{x:Ae}(h:RefsAt w x)(k:Ext w w'):RefsAt w' x:=⟨h.branches.keep k,h.tags.keep k,h.log.keep k⟩
structure Ek (r : As) : Prop where
 branches:r.branches.length<9223372036854775807
 tags:r.tags.length<9223372036854775807
 log:r.log.length<9223372036854775807
 bn:∀u∈r.branches,u.name.length<=9223372036854775807
 tn:∀u∈r.tags,u.name.length<=9223372036854775807
 head:r.head.length<=9223372036854775807
theorem Q7:Tryz.prog.eqGuardType Tryz.prog.depth 33=false:=by kernel_rfl
theorem EA:Tryz.prog.underlying 31=some (.slice 94):=by kernel_rfl
theorem JZ:∀w' :Abt,(sizeOf 94).run Abu w' = .ok 33 w' :=fun _=>by kernel_rfl
theorem Le:∃fs,Tryz.prog.underlying 94=some (.struct fs):=Df (by kernel_rfl)
theorem J1:(Tryz.prog.info? 94).map (·.size)=some 33:=by kernel_rfl
theorem Q9{d:Option Tmp}{ty:Abz}{pos:String}{af:Array Ack}{gd:Option (Nat × Bool)}(σ:AbD->Abs)(w:Abt):(execOp σ ⟨d, .alloc 94,ty,pos,af,gd⟩).run Abu w = .ok (.value (PQ w.heap.size 0)) (w.alloc (.cells (nmdC (⟨[],zid⟩:AF)).toArray 94)):=by kernel_rfl
theorem Ra:Ez Abu 94 nmdC:=⟨⟨_,(Le).choose_spec⟩,fun x=>AM (BB x) J1⟩
theorem Gy:AG Abu 94 0 0:=fun b o w=>by simp[go_sem]
theorem Lf:Plain Abu 84:=fun _ _=>by kernel_rfl
theorem NZ:AG Abu 94 1 1:=fun b o w=>by simp[go_sem]
theorem Ic:Plain Abu 85:=fun _ _=>by kernel_rfl
theorem N0:AG Abu 36 0 0:=fun b o w=>by simp[go_sem]
theorem Lg:Plain Abu 83:=fun _ _=>by kernel_rfl
theorem N1:AG Abu 36 1 1:=fun b o w=>by simp[go_sem]
theorem IU:AG Abu 36 4 35:=fun b o w=>by simp[go_sem]
theorem Fe:Tryz.prog.underlying 34=some (.slice 97):=by kernel_rfl
theorem Gz:AG Abu 36 2 2:=fun b o w=>by simp[go_sem]
theorem IV:AG Abu 36 3 3:=fun b o w=>by simp[go_sem]
theorem Pq:∀w' :Abt,(sizeOf 97).run Abu w' = .ok 67 w' :=fun _=>by kernel_rfl
theorem Lh:∃fs,Tryz.prog.underlying 97=some (.struct fs):=Df (by kernel_rfl)
theorem J2:(Tryz.prog.info? 97).map (·.size)=some 67:=by kernel_rfl
theorem Rb{d:Option Tmp}{ty:Abz}{pos:String}{af:Array Ack}{gd:Option (Nat × Bool)}(σ:AbD->Abs)(w:Abt):(execOp σ ⟨d, .alloc 97,ty,pos,af,gd⟩).run Abu w = .ok (.value (PQ w.heap.size 0)) (w.alloc (.cells (entC (⟨0,[],zid,zid,[]⟩:A5)).toArray 97)):=by kernel_rfl
theorem Rc:Ez Abu 97 entC:=⟨⟨_,(Lh).choose_spec⟩,fun x=>AM (CT x) J2⟩
theorem IW:AG Abu 97 0 0:=fun b o w=>by simp[go_sem]
theorem N2:AG Abu 77 0 0:=fun b o w=>by simp[go_sem]
theorem Re:Plain Abu 86:=fun _ _=>by kernel_rfl
theorem N3:AG Abu 97 1 66:=fun b o w=>by simp[go_sem]
theorem Rf:Plain Abu 35:=fun _ _=>by kernel_rfl
theorem N4:AG Abu 77 1 1:=fun b o w=>by simp[go_sem]
theorem BZ(w:Abt)(u:B4):
  Calls Abu 85 #[AB u.1] w fun e w' =>e = .returned (.bool (Ag u))/\Ext w w' :=by
 refine gG (args:= [AB u.1]) Tryz.func85 rfl 6 rfl rfl ?_;have hE:=AaF w;refine gS (AaV (vr (AB u.1) rfl) fun b c h a f i=> ?_);have hE:=hE.trans f;have g:=a;clear a;have j:b<c.heap.size:=by omega
 refine gS (Yu rfl g U6 rfl (by exact Aq u.2) (gS (Aa1 (v:=AB (Acy 32 0)) (by kernel_rfl) (gS (Zv (l1:=u.1) (l2:=(Acy 32 0)) U6 u5 Pg Q7 rfl rfl (u.2) (Ace) (AC rfl (vr (.bool (decide (u.1=(Acy 32 0)))) rfl) ?_))))));exact⟨rfl,hE⟩
theorem Li(w:Abt)(k:UInt8):
  Calls Abu 86 #[B8 k] w fun e w' =>e = .returned (.bool (DL k))/\Ext w w' :=by
 refine FU (args:= [B8 (k)]) Tryz.func86 rfl 13 rfl rfl ?_;have hE:=AaF w;refine gS (XX (a:=((k).toNat:Nat)) (b:=(1:Nat)) rfl rfl (AH _ _ _ _) (gO fun _=>Af (B8 (k)) rfl rfl (gF rfl) (fun hG3=>AaM rfl ⟨rfl,rfl⟩) (Av (gO fun _=>Af (.bool (decide (((k).toNat:Nat)=(2)))) rfl rfl (gF rfl) (fun hG4=>XX (a:=(((k).toNat:Nat):Int)) (b:=((2:Nat):Int)) (Ai rfl hG4) rfl (AH _ .u8 ((k).toNat) (2)) ⟨rfl,rfl⟩) (Av (gS (Ye rfl rfl (fun hA=>(Ai rfl (BO hA))) fun bb5 hbb6=>(gO fun _=>Af (B8 (k)) rfl rfl (gF rfl) (fun hG7=>AaM rfl ⟨rfl,rfl⟩) (Av (gO fun _=>Af (.bool (decide (((k).toNat:Nat)=(3)))) rfl rfl (gF rfl) (fun hG8=>XX (a:=(((k).toNat:Nat):Int)) (b:=((3:Nat):Int)) (Ai rfl hG8) rfl (AH _ .u8 ((k).toNat) (3)) ⟨rfl,rfl⟩) (Av (gS (Ye rfl rfl (fun hA=>(Ai rfl (BO hA))) fun bb9 hbb10=>(AC rfl (vr (.bool (bb9)) rfl) ?_))))))))))))));subst hbb6 hbb10;exact⟨rfl,hE⟩
theorem Lj(w:Abt)(v:Abs)(l:List AF)(hr:RG 33 nmdC w v l)(hll:l.length<9223372036854775807)(hln:∀u∈l,u.name.length<=9223372036854775807):
  Calls Abu 83 #[v] w fun e w' =>e = .returned (.bool (BS l))/\Ext w w' :=by
 refine gG (args:= [v]) Tryz.func83 rfl 40 rfl rfl ?_;have hE:=AaF w;refine gS (X8 EA (X7 hr rfl) (gL (fun(ρ:Ah) (wz:Abt)=>∃i:Nat,ρ 0=(v:Abs)/\ρ 5=(v:Abs)/\ρ 6=(NI l.length:Abs)/\ρ 7=(NI i:Abs)/\RG 33 nmdC wz v l/\Ext w wz/\(i<=l.length)/\(∀j,j<i->nE l j=false)/\True) (fun ρ _=>l.length-(intOf (ρ 7)).toNat) ⟨0,rfl,rfl,rfl,rfl,hr,hE,AbQ _,fun j hj=>absurd hj (AcK _),trivial⟩ ?_));clear hr hE;rintro af w5 ⟨i,p,T5,r,f,hr,hE,hi,hn,-⟩;have q7:=f;refine gS (XX (a:=(i:Nat)) (b:=(l.length:Nat)) f r (Bg _ _ _ _) ?_);refine cD rfl (fun z=> ?_) fun z=> ?_
 ·have hlt:i<l.length:=z;have hnm:=hln _ (CL dNmd hlt);have bd:(nmdC (l.getD (i) dNmd)).length=33:=(AaT hr dNmd (by omega));refine gS (Yj EA JZ (by decide) dNmd (X7 hr T5) f (by omega) fun be aa=>(gS (X3 (Yo aa rfl) (Le).choose_spec rfl (by rw[BB];exact J1) (gS (AaN Q9 fun c ah bf ab ac bg=> ?_)))));have o:=AaF w5;have bh:=hE;have ai:=hE.size;have hE:=hE.trans ac;have o:=o.trans ac;have g:=ab;clear ab;have bi:c<ah.heap.size:=by omega
  refine gS (Ya Ra (vr (PQ c 0) rfl) (vr (.agg (nmdC (l.getD (i) dNmd)).toArray) rfl) g (DE) fun aj ad ae bj=> ?_);have hE:=Ad hE ae (Abw ai (by omega));have o:=Ad o ae (Abw (Abx _) (by omega));clear g;have g:aj.heap[c]? =some (.cells (nmdC (l.getD (i) dNmd)).toArray 94 (0,0)):=ad;clear ad;have bk:=bl g;clear aa;refine gR ?_;refine EW [Is (PQ c 0),Is (St (((l.getD (i) dNmd)).name)),Is (.bool (Au (((l.getD (i) dNmd)).name))),Is (.bool (!(Au (((l.getD (i) dNmd)).name)))),Is (.bool (!(Au (((l.getD (i) dNmd)).name)))),Is (cond (!(!(Au (((l.getD (i) dNmd)).name)))) (PQ c 1) undef),Is (cond (!(!(Au (((l.getD (i) dNmd)).name)))) (AB (((l.getD (i) dNmd)).id.1)) undef),Is (cond (!(!(Au (((l.getD (i) dNmd)).name)))) (.bool (Ag (((l.getD (i) dNmd)).id))) undef),Is (.bool ((!(Au (((l.getD (i) dNmd)).name)))||(Ag (((l.getD (i) dNmd)).id)))),Is (.bool ((!(Au (((l.getD (i) dNmd)).name)))||(Ag (((l.getD (i) dNmd)).id)))),Is (cond (!((!(Au (((l.getD (i) dNmd)).name)))||(Ag (((l.getD (i) dNmd)).id)))) (NI i) undef),Is (cond (!((!(Au (((l.getD (i) dNmd)).name)))||(Ag (((l.getD (i) dNmd)).id)))) (.bool (decide ((0)<(i)))) undef),Is (cond (!((!(Au (((l.getD (i) dNmd)).name)))||(Ag (((l.getD (i) dNmd)).id)))) (.bool (decide ((0)<(i)))) undef),Is (cond ((!((!(Au (((l.getD (i) dNmd)).name)))||(Ag (((l.getD (i) dNmd)).id))))&&(decide ((0)<(i)))) (v) undef),Is (cond ((!((!(Au (((l.getD (i) dNmd)).name)))||(Ag (((l.getD (i) dNmd)).id))))&&(decide ((0)<(i)))) (NI i) undef),Is (cond ((!((!(Au (((l.getD (i) dNmd)).name)))||(Ag (((l.getD (i) dNmd)).id))))&&(decide ((0)<(i)))) (NI ((i)-(1))) undef),fun x w' =>((!((!(Au (((l.getD (i) dNmd)).name)))||(Ag (((l.getD (i) dNmd)).id))))&&(decide ((0)<(i))))=true->(fun x w' =>PR (nmdC (l.getD ((i)-(1)) dNmd)) x w') x w',fun x w' =>((!((!(Au (((l.getD (i) dNmd)).name)))||(Ag (((l.getD (i) dNmd)).id))))&&(decide ((0)<(i))))=true->(PCell (St ((l.getD ((i)-(1)) dNmd).name))) x w',Is (cond ((!((!(Au (((l.getD (i) dNmd)).name)))||(Ag (((l.getD (i) dNmd)).id))))&&(decide ((0)<(i)))) (St ((l.getD ((i)-(1)) dNmd).name)) undef),Is (cond ((!((!(Au (((l.getD (i) dNmd)).name)))||(Ag (((l.getD (i) dNmd)).id))))&&(decide ((0)<(i)))) (PQ c 0) undef),Is (cond ((!((!(Au (((l.getD (i) dNmd)).name)))||(Ag (((l.getD (i) dNmd)).id))))&&(decide ((0)<(i)))) (St (((l.getD (i) dNmd)).name)) undef),Is (cond ((!((!(Au (((l.getD (i) dNmd)).name)))||(Ag (((l.getD (i) dNmd)).id))))&&(decide ((0)<(i)))) (.bool (!(Ab4 ((l.getD ((i)-(1)) dNmd).name) (((l.getD (i) dNmd)).name)))) undef),Is (cond (!((!(Au (((l.getD (i) dNmd)).name)))||(Ag (((l.getD (i) dNmd)).id)))) (.bool ((decide ((0)<(i)))&&(!(Ab4 ((l.getD ((i)-(1)) dNmd).name) (((l.getD (i) dNmd)).name))))) undef),Is (.bool (((!(Au (((l.getD (i) dNmd)).name)))||(Ag (((l.getD (i) dNmd)).id)))||((decide ((0)<(i)))&&(!(Ab4 ((l.getD ((i)-(1)) dNmd).name) (((l.getD (i) dNmd)).name))))))] (by kernel_rfl) [12,13,14,15,16,17,18,19,20,21,22,23,24,25,26,27,28,29,30,31,32,33,34,35] (by kernel_rfl) (by kernel_rfl) (XI (S3 ⟨(Stab.may ((fun _ _ _ h k=>Aa4 h k))),(Stab.may (Zh _)),(XJ trivial)⟩)) ?ak ?hQ1004
  case ak=>
   refine⟨?_,?_,?_,?_,?_,?_,?_,?_,?_,?_,?_,?_,?_,?_,?_,?_,?_,?_,?_,?_,?_,?_,?_,?_,trivial⟩
   ·refine AR rfl fun σ w1 hC h=> ?_;have q:σ 4=PQ c 0:=(AL (h 4 (by decide))).trans rfl;exact AaE Gy q ⟨AaF _,rfl⟩
   ·refine AR rfl fun σ w1 hC h=> ?_;have al:=AL (h 12 (by decide));exact XW Et rfl al (Ac (eb hC g) (EI (l.getD (i) dNmd))) ⟨AaF _,rfl⟩
   ·refine AR rfl fun σ w1 hC h=> ?_;have am:=AL (h 13 (by decide));refine X0 Lf am ((Jo _ (((l.getD (i) dNmd)).name) (by have:=hnm;omega)).mono ?_);rintro e w2 ⟨rfl,hx⟩;exact⟨_,rfl,hx,rfl⟩
   ·refine AR rfl fun σ w1 hC h=> ?_;have an:=AL (h 14 (by decide));exact Yf an ⟨AaF _,rfl⟩
   ·refine AR rfl fun σ w1 hC h=> ?_;have ao:=AL (h 15 (by decide));exact AaM ao ⟨AaF _,rfl⟩
   ·refine A0 4 false 16 (G:= !(!(Au (((l.getD (i) dNmd)).name)))) rfl rfl (fun x _ (h:x = .bool (!(Au (((l.getD (i) dNmd)).name))))=>gF h) (fun hu_ _=>Bq hu_) fun hG σ w1 hC h=> ?_;have q:σ 4=PQ c 0:=(AL (h 4 (by decide))).trans rfl;exact AaE NZ q ⟨AaF _,Bp hG⟩
   ·refine A0 4 false 16 (G:= !(!(Au (((l.getD (i) dNmd)).name)))) rfl rfl (fun x _ (h:x = .bool (!(Au (((l.getD (i) dNmd)).name))))=>gF h) (fun hu_ _=>Bq hu_) fun hG σ w1 hC h=> ?_;have ap:=AL (h 17 (by decide));exact X3 (AaS (eb hC g) (GQ (l.getD (i) dNmd)) (GR (l.getD (i) dNmd)) (Ai ap hG)) U6 rfl (Aq ((l.getD (i) dNmd)).id.2) ⟨AaF _,Bp hG⟩
   ·refine A0 4 false 16 (G:= !(!(Au (((l.getD (i) dNmd)).name)))) rfl rfl (fun x _ (h:x = .bool (!(Au (((l.getD (i) dNmd)).name))))=>gF h) (fun hu_ _=>Bq hu_) fun hG σ w1 hC h=> ?_;have aq:=AL (h 18 (by decide));refine X0 Ic (Ai aq hG) ((BZ _ (((l.getD (i) dNmd)).id)).mono ?_);rintro e w2 ⟨rfl,hx⟩;exact⟨_,rfl,hx,Bp hG⟩
   ·refine AR rfl fun σ w1 hC h=> ?_;have ar:=AL (h 16 (by decide));have au:=AL (h 19 (by decide));exact YE ar (vr (.bool (true)) rfl) (fun hA=>(Ai au (BO hA))) ⟨AaF _,rfl⟩
   ·refine AR rfl fun σ w1 hC h=> ?_;have av:=AL (h 20 (by decide));exact AaM av ⟨AaF _,rfl⟩
   ·refine A0 9 false 21 (G:= !((!(Au (((l.getD (i) dNmd)).name)))||(Ag (((l.getD (i) dNmd)).id)))) rfl rfl (fun x _ (h:x = .bool ((!(Au (((l.getD (i) dNmd)).name)))||(Ag (((l.getD (i) dNmd)).id))))=>gF h) (fun hu_ _=>Bq hu_) fun hG σ w1 hC h=> ?_;have s:=(AL (h 3 (by decide))).trans f;exact AaM s ⟨AaF _,Bp hG⟩
   ·refine A0 9 false 21 (G:= !((!(Au (((l.getD (i) dNmd)).name)))||(Ag (((l.getD (i) dNmd)).id)))) rfl rfl (fun x _ (h:x = .bool ((!(Au (((l.getD (i) dNmd)).name)))||(Ag (((l.getD (i) dNmd)).id))))=>gF h) (fun hu_ _=>Bq hu_) fun hG σ w1 hC h=> ?_;have aw:=AL (h 22 (by decide));exact XX (a:=((i:Nat):Int)) (b:=((0:Nat):Int)) (Ai aw hG) (vr (NI 0) rfl) (DK _ .i64 (i) (0)) ⟨AaF _,Bp hG⟩
   ·refine A0 9 false 21 (G:= !((!(Au (((l.getD (i) dNmd)).name)))||(Ag (((l.getD (i) dNmd)).id)))) rfl rfl (fun x _ (h:x = .bool ((!(Au (((l.getD (i) dNmd)).name)))||(Ag (((l.getD (i) dNmd)).id))))=>gF h) (fun hu_ _=>Bq hu_) fun hG σ w1 hC h=> ?_;have ax:=AL (h 23 (by decide));exact AaM (Ai ax hG) ⟨AaF _,Bp hG⟩
   ·refine A0 12 true 24 (G:=(!((!(Au (((l.getD (i) dNmd)).name)))||(Ag (((l.getD (i) dNmd)).id))))&&(decide ((0)<(i)))) rfl rfl (fun x _ (h:x=cond (!((!(Au (((l.getD (i) dNmd)).name)))||(Ag (((l.getD (i) dNmd)).id)))) (.bool (decide ((0)<(i)))) undef)=>Fz h) (fun hu_ _=>Bq hu_) fun hG σ w1 hC h=> ?_;have e0:=(AL (h 0 (by decide))).trans p;exact AaM e0 ⟨AaF _,Bp hG⟩
   ·refine A0 12 true 24 (G:=(!((!(Au (((l.getD (i) dNmd)).name)))||(Ag (((l.getD (i) dNmd)).id))))&&(decide ((0)<(i)))) rfl rfl (fun x _ (h:x=cond (!((!(Au (((l.getD (i) dNmd)).name)))||(Ag (((l.getD (i) dNmd)).id)))) (.bool (decide ((0)<(i)))) undef)=>Fz h) (fun hu_ _=>Bq hu_) fun hG σ w1 hC h=> ?_;have s:=(AL (h 3 (by decide))).trans f;exact AaM s ⟨AaF _,Bp hG⟩
   ·refine A0 12 true 24 (G:=(!((!(Au (((l.getD (i) dNmd)).name)))||(Ag (((l.getD (i) dNmd)).id))))&&(decide ((0)<(i)))) rfl rfl (fun x _ (h:x=cond (!((!(Au (((l.getD (i) dNmd)).name)))||(Ag (((l.getD (i) dNmd)).id)))) (.bool (decide ((0)<(i)))) undef)=>Fz h) (fun hu_ _=>Bq hu_) fun hG σ w1 hC h=> ?_;have az:=AL (h 26 (by decide));exact X6 (xv:=NI i) (yv:=NI 1) (Ai az hG) (vr (NI 1) rfl) rfl (EX _ (i) (1) (by first | omega | (simp only[gA,gB,gC,gD,gE]at hG;omega)) (by first | omega | (simp only[gA,gB,gC,gD,gE]at hG;omega))) ⟨AaF _,Bp hG⟩
   ·refine A0 12 true 24 (G:=(!((!(Au (((l.getD (i) dNmd)).name)))||(Ag (((l.getD (i) dNmd)).id))))&&(decide ((0)<(i)))) rfl rfl (fun x _ (h:x=cond (!((!(Au (((l.getD (i) dNmd)).name)))||(Ag (((l.getD (i) dNmd)).id)))) (.bool (decide ((0)<(i)))) undef)=>Fz h) (fun hu_ _=>Xw hu_) fun hG σ w1 hC h=> ?_;have a0:=AL (h 25 (by decide));have a1:=AL (h 27 (by decide));exact Yj EA JZ (by decide) dNmd (X7 (hr.keep (o.trans hC)) (Ai a0 hG)) (Ai a1 hG) (by first | omega | (simp only[gA,gB,gC,gD,gE]at hG;omega)) fun v h=>⟨AaF _,fun _=>h⟩
   ·refine A0 12 true 24 (G:=(!((!(Au (((l.getD (i) dNmd)).name)))||(Ag (((l.getD (i) dNmd)).id))))&&(decide ((0)<(i)))) rfl rfl (fun x _ (h:x=cond (!((!(Au (((l.getD (i) dNmd)).name)))||(Ag (((l.getD (i) dNmd)).id)))) (.bool (decide ((0)<(i)))) undef)=>Fz h) (fun hu_ _=>Xw hu_) fun hG σ w1 hC h=> ?_;have a2:(fun x w' =>((!((!(Au (((l.getD (i) dNmd)).name)))||(Ag (((l.getD (i) dNmd)).id))))&&(decide ((0)<(i))))=true->(fun x w' =>PR (nmdC (l.getD ((i)-(1)) dNmd)) x w') x w') (σ 28) w1:=h 28 (by decide);exact Y2 (n:=1) Gy (a2 hG) fun v h=>⟨AaF _,fun _=>Ze (by rw[Mx]at h;exact h)⟩
   ·refine A0 12 true 24 (G:=(!((!(Au (((l.getD (i) dNmd)).name)))||(Ag (((l.getD (i) dNmd)).id))))&&(decide ((0)<(i)))) rfl rfl (fun x _ (h:x=cond (!((!(Au (((l.getD (i) dNmd)).name)))||(Ag (((l.getD (i) dNmd)).id)))) (.bool (decide ((0)<(i)))) undef)=>Fz h) (fun hu_ _=>Bq hu_) fun hG σ w1 hC h=> ?_;have a3:(fun x w' =>((!((!(Au (((l.getD (i) dNmd)).name)))||(Ag (((l.getD (i) dNmd)).id))))&&(decide ((0)<(i))))=true->(PCell (St ((l.getD ((i)-(1)) dNmd).name))) x w') (σ 29) w1:=h 29 (by decide);exact YB Et rfl (a3 hG) ⟨AaF _,Bp hG⟩
   ·refine A0 12 true 24 (G:=(!((!(Au (((l.getD (i) dNmd)).name)))||(Ag (((l.getD (i) dNmd)).id))))&&(decide ((0)<(i)))) rfl rfl (fun x _ (h:x=cond (!((!(Au (((l.getD (i) dNmd)).name)))||(Ag (((l.getD (i) dNmd)).id)))) (.bool (decide ((0)<(i)))) undef)=>Fz h) (fun hu_ _=>Bq hu_) fun hG σ w1 hC h=> ?_;have q:σ 4=PQ c 0:=(AL (h 4 (by decide))).trans rfl;exact AaE Gy q ⟨AaF _,Bp hG⟩
   ·refine A0 12 true 24 (G:=(!((!(Au (((l.getD (i) dNmd)).name)))||(Ag (((l.getD (i) dNmd)).id))))&&(decide ((0)<(i)))) rfl rfl (fun x _ (h:x=cond (!((!(Au (((l.getD (i) dNmd)).name)))||(Ag (((l.getD (i) dNmd)).id)))) (.bool (decide ((0)<(i)))) undef)=>Fz h) (fun hu_ _=>Bq hu_) fun hG σ w1 hC h=> ?_;have a4:=AL (h 31 (by decide));exact XW Et rfl (Ai a4 hG) (Ac (eb hC g) (EI (l.getD (i) dNmd))) ⟨AaF _,Bp hG⟩
   ·refine A0 12 true 24 (G:=(!((!(Au (((l.getD (i) dNmd)).name)))||(Ag (((l.getD (i) dNmd)).id))))&&(decide ((0)<(i)))) rfl rfl (fun x _ (h:x=cond (!((!(Au (((l.getD (i) dNmd)).name)))||(Ag (((l.getD (i) dNmd)).id)))) (.bool (decide ((0)<(i)))) undef)=>Fz h) (fun hu_ _=>Bq hu_) fun hG σ w1 hC h=> ?_;have a5:=AL (h 30 (by decide));have a6:=AL (h 32 (by decide));exact ZT (l:=(l.getD ((i)-(1)) dNmd).name) (m:=((l.getD (i) dNmd)).name) (.inr rfl) (Ai a5 hG) (Ai a6 hG) (!(Ab4 ((l.getD ((i)-(1)) dNmd).name) (((l.getD (i) dNmd)).name))) rfl ⟨AaF _,Bp hG⟩
   ·refine A0 9 false 21 (G:= !((!(Au (((l.getD (i) dNmd)).name)))||(Ag (((l.getD (i) dNmd)).id)))) rfl rfl (fun x _ (h:x = .bool ((!(Au (((l.getD (i) dNmd)).name)))||(Ag (((l.getD (i) dNmd)).id))))=>gF h) (fun hu_ _=>Bq hu_) fun hG σ w1 hC h=> ?_;have a7:=AL (h 24 (by decide));have a8:=AL (h 33 (by decide));exact Yz (Ai a7 hG) (fun hA=>(Ai a8 (FG hG hA))) (vr (.bool (false)) rfl) ⟨AaF _,Bp hG⟩
   ·refine AR rfl fun σ w1 hC h=> ?_;have a9:=AL (h 21 (by decide));have ba:=AL (h 34 (by decide));exact YE a9 (vr (.bool (true)) rfl) (fun hA=>(Ai ba (BO hA))) ⟨AaF _,rfl⟩
  intro bb bm t he hf;obtain⟨-,-,-,-,-,-,-,-,-,-,-,-,-,-,-,-,-,-,-,-,-,-,-,k35,-⟩:=hf;obtain⟨p,T3,T4,T5,r,f,-⟩:=he.hold [(0,_),(3,_),(4,PQ c 0),(5,_),(6,_),(7,_)] ⟨p,f,rfl,T5,r,f,trivial⟩ rfl;clear he;have hE:=hE.trans t;have o:=o.trans t;have g:=eb t g;have bc:bb 35 = .bool (((!(Au (((l.getD (i) dNmd)).name)))||(Ag (((l.getD (i) dNmd)).id)))||((decide ((0)<(i)))&&(!(Ab4 ((l.getD ((i)-(1)) dNmd).name) (((l.getD (i) dNmd)).name))))):=k35;clear k35;refine gX ?_;refine cB (((!(Au (((l.getD (i) dNmd)).name)))||(Ag (((l.getD (i) dNmd)).id)))||((decide ((0)<(i)))&&(!(Ab4 ((l.getD ((i)-(1)) dNmd).name) (((l.getD (i) dNmd)).name))))) bc (fun y=> ?_) fun y=> ?_
  ·have hbad:nE l i=true:=y;refine AC rfl (vr (.bool (false)) rfl) ?_;exact⟨by rw[Po hlt hbad],hE⟩
  have hbad:nE l i=false:=y;refine gS (X6 (xv:=NI i) (yv:=NI 1) f rfl rfl (AI _ _ _ (by omega)) (gK (Acz ⟨i+1,p,T5,r,rfl,(hr.keep o),hE,by omega,OE hn hbad,trivial⟩ ?_)));show l.length-(intOf (NI ((i)+(1)))).toNat<l.length-(intOf (af 7)).toNat;rw[q7];simp only[intOf,AbZ];omega
 refine gS (X8 EA (X7 hr p) (gS (XX (a:=(l.length:Nat)) (b:=(64:Nat)) rfl rfl (EG _ _ _ _) (AC rfl (vr (.bool (decide ((l.length)<=(64)))) rfl) ?_))));exact⟨by rw[Hf (show l.length<=i by omega) hn],hE⟩
theorem Hg(w:Abt)(x:Ae)(hm:RefsAt w x)(hL:Ek x.1):
  Calls Abu 34 #[.agg (refsC x).toArray] w fun e w' =>e = .returned (.bool (AE x.1))/\Ext w w' :=by
 have hmt:=hm.branches;have hmg:=hm.tags;have hml:=hm.log;refine FU (args:= [.agg (refsC x).toArray]) Tryz.func34 rfl 72 rfl rfl ?_;have hE:=AaF w;refine gS (AaV (vr (.agg (refsC x).toArray) rfl) fun f w3 au v ak av=> ?_);have hE:=hE.trans ak;have c:=v;clear v;have aw:f<w3.heap.size:=by omega
 refine gS (AaE N0 rfl (gS (XW EA rfl rfl (Ac c (CH x)) (gS (X0 Lg rfl ((Lj _ _ x.1.branches (hmt.keep hE) hL.branches hL.bn).mono ?_))))));rintro e ax ⟨rfl,y⟩;refine⟨_,rfl,?_⟩;have hE:=hE.trans y;have c:=eb y c;refine gS (Yf rfl (gO fun _=>Af (PQ f 1) rfl rfl (gF rfl) (fun hG14=>AaE N1 rfl ⟨rfl,rfl⟩) (Av (gO fun _=>Af (x.2.tags) rfl rfl (gF rfl) (fun hG15=>XW EA rfl (Ai rfl hG15) (Ac c (Db x)) ⟨rfl,rfl⟩) (Av (gO fun _=>Cc (.bool (BS x.1.tags)) rfl rfl (gF rfl) (fun hG16=>X0 Lg (Ai rfl hG16) ((Lj _ _ x.1.tags (hmg.keep hE) hL.tags hL.tn).mono (by rintro e w2 ⟨rfl,hx⟩;exact⟨_,rfl,rfl,hx⟩))) fun ay z=>Av ?_))))));have hE:=hE.trans z;have c:=eb z c;refine gO fun _=>Af (.bool (!(BS x.1.tags))) rfl rfl (gF rfl) (fun hG20=>Yf (Ai rfl hG20) ⟨rfl,rfl⟩) (Av (gS (Ye rfl rfl (fun hA=>(Ai rfl (BO hA))) fun bb21 hbb22=>(gO fun _=>Af (PQ f 35) rfl rfl (gF rfl) (fun hG23=>AaE IU rfl ⟨rfl,rfl⟩) (Av (gO fun _=>Af (x.2.log) rfl rfl (gF rfl) (fun hG24=>XW Fe rfl (Ai rfl hG24) (Ac c (BY x)) ⟨rfl,rfl⟩) (Av (gO fun _=>Af (NI ((x.1.log).length)) rfl rfl (gF rfl) (fun hG25=>X8 Fe (X7 (hml.keep hE) (Ai rfl hG25)) ⟨rfl,rfl⟩) (Av (gO fun _=>Af (.bool (decide ((64)<((x.1.log).length)))) rfl rfl (gF rfl) (fun hG26=>XX (a:=(((x.1.log).length:Nat):Int)) (b:=((64:Nat):Int)) (Ai rfl hG26) rfl (DK _ .i64 ((x.1.log).length) (64)) ⟨rfl,rfl⟩) (Av (gS (Ye rfl rfl (fun hA=>(Ai rfl (BO hA))) fun bb27 hbb28=> ?_)))))))))))));refine cB (bb27) rfl (fun q=> ?_) fun q=> ?_
 ·subst hbb22 hbb28;have h1c:Ib x.1=true:=q;refine AC rfl (vr (.bool (false)) rfl) ?_;exact⟨by rw[Tb h1c],hE⟩
 subst hbb22 hbb28;have h1c:Ib x.1=false:=q;refine gS (AaE Gz rfl (gS (XW Et rfl rfl (Ac c (Ew x)) (gS (YR (l:=x.1.head) (m:=([]:AgP)) (.inr rfl) rfl rfl (decide ((x.1.head:AgP)≠(([]:AgP):AgP))) rfl (gO fun _=>Af (PQ f 2) rfl rfl (gT rfl) (fun hG32=>AaE Gz rfl ⟨rfl,rfl⟩) (Av (gO fun _=>Af (St (x.1.head)) rfl rfl (gT rfl) (fun hG33=>XW Et rfl (Ai rfl hG33) (Ac c (Ew x)) ⟨rfl,rfl⟩) (Av (gO fun _=>Cc (.bool (Au x.1.head)) rfl rfl (gT rfl) (fun hG34=>X0 Lf (Ai rfl hG34) ((Jo _ x.1.head hL.head).mono (by rintro e w2 ⟨rfl,hx⟩;exact⟨_,rfl,rfl,hx⟩))) fun az aa=>Av ?_))))))))));have hE:=hE.trans aa;have c:=eb aa c;refine gO fun _=>Af (.bool (!(Au x.1.head))) rfl rfl (gT (vr (.bool (decide ((x.1.head:AgP)≠(([]:AgP):AgP)))) rfl)) (fun hG38=>Yf (Ai (vr (cond ((decide ((x.1.head:AgP)≠(([]:AgP):AgP)))) (.bool (Au x.1.head)) undef) rfl) hG38) ⟨rfl,rfl⟩) (Av (gO fun _=>Af (.bool (!(Au x.1.head))) rfl rfl (gT (vr (.bool (decide ((x.1.head:AgP)≠(([]:AgP):AgP)))) rfl)) (fun hG39=>AaM (Ai (vr (cond ((decide ((x.1.head:AgP)≠(([]:AgP):AgP)))) (.bool (!(Au x.1.head))) undef) rfl) hG39) ⟨rfl,rfl⟩) (Av (gO fun _=>Af (PQ f 3) rfl rfl (ET (vr (cond ((decide ((x.1.head:AgP)≠(([]:AgP):AgP)))) (.bool (!(Au x.1.head))) undef) rfl)) (fun hG40=>AaE IV (vr (PQ f 0) rfl) ⟨rfl,rfl⟩) (Av (gO fun _=>Af (AB x.1.at_.1) rfl rfl (ET (vr (cond ((decide ((x.1.head:AgP)≠(([]:AgP):AgP)))) (.bool (!(Au x.1.head))) undef) rfl)) (fun hG41=>X3 (AaS c (DF x) (D4 x) (Ai (vr (cond ((decide ((x.1.head:AgP)≠(([]:AgP):AgP)))&& !(!(Au x.1.head))) (PQ f 3) undef) rfl) hG41)) U6 rfl (Aq x.1.at_.2) ⟨rfl,rfl⟩) (Av (gO fun _=>Cc (.bool (Ag x.1.at_)) rfl rfl (ET (vr (cond ((decide ((x.1.head:AgP)≠(([]:AgP):AgP)))) (.bool (!(Au x.1.head))) undef) rfl)) (fun hG42=>X0 Ic (Ai (vr (cond ((decide ((x.1.head:AgP)≠(([]:AgP):AgP)))&& !(!(Au x.1.head))) (AB x.1.at_.1) undef) rfl) hG42) ((BZ _ x.1.at_).mono (by rintro e w2 ⟨rfl,hx⟩;exact⟨_,rfl,rfl,hx⟩))) fun a0 ab=>Av ?_))))))));have hE:=hE.trans ab;have c:=eb ab c;refine gO fun _=>Af (.bool (!(Ag x.1.at_))) rfl rfl (ET rfl) (fun hG46=>Yf (Ai rfl hG46) ⟨rfl,rfl⟩) (Av (gO fun _=>DP ((!(Au x.1.head))||(!(Ag x.1.at_))) rfl rfl (gT rfl) (fun hG47=>YE (Ai rfl hG47) rfl (fun hA=>(Ai rfl (FG hG47 (BO hA)))) ⟨rfl,rfl⟩) fun bb48 hbb49=>Av (gS (Yd rfl (fun hA=>(Ai rfl hA)) rfl fun bb50 hbb51=>(gO fun _=>Af (PQ f 2) rfl rfl (gF rfl) (fun hG52=>AaE Gz rfl ⟨rfl,rfl⟩) (Av (gO fun _=>Af (St (x.1.head)) rfl rfl (gF rfl) (fun hG53=>XW Et rfl (Ai rfl hG53) (Ac c (Ew x)) ⟨rfl,rfl⟩) (Av (gO fun _=>Af (.bool (decide ((x.1.head:AgP)=(([]:AgP):AgP)))) rfl rfl (gF rfl) (fun hG54=>YR (l:=x.1.head) (m:=([]:AgP)) (.inl rfl) (Ai rfl hG54) rfl (decide ((x.1.head:AgP)=(([]:AgP):AgP))) rfl ⟨rfl,rfl⟩) (Av (gO fun _=>Af (.bool (decide ((x.1.head:AgP)=(([]:AgP):AgP)))) rfl rfl (gF rfl) (fun hG55=>AaM (Ai rfl hG55) ⟨rfl,rfl⟩) (Av (gO fun _=>Af (PQ f 3) rfl rfl (Fz rfl) (fun hG56=>AaE IV rfl ⟨rfl,rfl⟩) (Av (gO fun _=>Af (AB x.1.at_.1) rfl rfl (Fz rfl) (fun hG57=>X3 (AaS c (DF x) (D4 x) (Ai rfl hG57)) U6 rfl (Aq x.1.at_.2) ⟨rfl,rfl⟩) (Av (gO fun _=>Cc (.bool (Ag x.1.at_)) rfl rfl (Fz rfl) (fun hG58=>X0 Ic (Ai rfl hG58) ((BZ _ x.1.at_).mono (by rintro e w2 ⟨rfl,hx⟩;exact⟨_,rfl,rfl,hx⟩))) fun a1 ac=>Av ?_)))))))))))))))));have hE:=hE.trans ac;have c:=eb ac c;refine gO fun _=>DP ((decide ((x.1.head:AgP)=(([]:AgP):AgP)))&&(Ag x.1.at_)) rfl rfl (gF rfl) (fun hG62=>Yz (Ai rfl hG62) (fun hA=>(Ai rfl (FG hG62 hA))) rfl ⟨rfl,rfl⟩) fun bb63 hbb64=>Av (gS (Ye rfl rfl (fun hA=>(Ai rfl (BO hA))) fun bb65 hbb66=> ?_));refine cB (bb65) rfl (fun r=> ?_) fun r=> ?_
 ·subst hbb49 hbb51 hbb64 hbb66;have h2c:GY x.1=true:=r;refine AC rfl (vr (.bool (false)) rfl) ?_;exact⟨by rw[Tc h1c h2c],hE⟩
 subst hbb49 hbb51 hbb64 hbb66;have h2c:GY x.1=false:=r;refine gS (AaE IU rfl (gS (XW Fe rfl rfl (Ac c (BY x)) (gS (X8 Fe (X7 (hml.keep hE) rfl) (gL (fun(ρ:Ah) (wz:Abt)=>∃i:Nat,ρ 0=(.agg (refsC x).toArray:Abs)/\ρ 1=(PQ f 0:Abs)/\ρ 47=(x.2.log:Abs)/\ρ 48=(NI ((x.1.log).length):Abs)/\ρ 49=(NI i:Abs)/\Ext w wz/\wz.heap[f]? =some (.cells (refsC x).toArray 36 (0,0))/\(i<=x.1.log.length)/\(∀j,j<i->Gx x.1.log j=false)/\True) (fun ρ _=>x.1.log.length-(intOf (ρ 49)).toNat) ⟨0,rfl,rfl,rfl,rfl,rfl,hE,c,AbQ _,fun j hj=>absurd hj (AcK _),trivial⟩ ?_))))));clear hE c;rintro al am ⟨i,T0,T1,ad,ae,n,hE,c,hi,hn,-⟩;have q49:=n;refine gS (XX (a:=(i:Nat)) (b:=((x.1.log).length:Nat)) n ae (Bg _ _ _ _) ?_);refine cD rfl (fun af=> ?_) fun af=> ?_
 ·have hlt:i<x.1.log.length:=af;have a2:(entC ((x.1.log).getD (i) At)).length=67:=(AaT (hml.keep hE) At (by omega));refine gS (Yj Fe Pq (by decide) At (X7 (hml.keep hE) ad) n (by omega) fun a3 ag=>(gS (X3 (Yo ag rfl) (Lh).choose_spec rfl (by rw[CT];exact J2) (gS (AaN Rb fun k ao ap ah s a4=> ?_)))));have h:=AaF am;have a5:=hE;have aq:=hE.size;have a6:=AN (bl c) ap;have hE:=hE.trans s;have c:=eb s c;have h:=h.trans s;have g:=ah;clear ah;have a7:k<ao.heap.size:=by omega
  refine gS (Ya Rc (vr (PQ k 0) rfl) (vr (.agg (entC ((x.1.log).getD (i) At)).toArray) rfl) g (FJ) fun ar ai t a8=> ?_);have hE:=Ad hE t (Abw aq (by omega));have c:=kb t c (by omega);have h:=Ad h t (Abw (Abx _) (by omega));clear g;have g:ar.heap[k]? =some (.cells (entC ((x.1.log).getD (i) At)).toArray 97 (0,0)):=ai;clear ai;have a9:=bl g;clear ag;refine gS (AaE IW rfl (gS (AaE N2 rfl (gS (XW u5 rfl rfl (Ac g (QJ ((x.1.log).getD (i) At))) (gS (X0 Re rfl ((Li _ ((((x.1.log).getD (i) At)).kind)).mono ?_))))))));rintro e ba ⟨rfl,o⟩;refine⟨_,rfl,?_⟩;have hE:=hE.trans o;have c:=eb o c;have h:=h.trans o;have g:=eb o g;refine gS (Yf rfl (gO fun _=>Af (PQ k 66) rfl rfl (gF rfl) (fun hG99=>AaE N3 rfl ⟨rfl,rfl⟩) (Av (gO fun _=>Af (St ((((x.1.log).getD (i) At)).note)) rfl rfl (gF rfl) (fun hG100=>XW Et rfl (Ai rfl hG100) (Ac g (JP ((x.1.log).getD (i) At))) ⟨rfl,rfl⟩) (Av (gO fun _=>Cc (.bool (Ch ((((x.1.log).getD (i) At)).note))) rfl rfl (gF rfl) (fun hG101=>X0 Rf (Ai rfl hG101) ((MH _ ((((x.1.log).getD (i) At)).note)).mono (by rintro e w2 ⟨rfl,hx⟩;exact⟨_,rfl,rfl,hx⟩))) fun bb p=>Av ?_))))));have hE:=hE.trans p;have c:=eb p c;have h:=h.trans p;have g:=eb p g;refine gO fun _=>Af (.bool (!(Ch ((((x.1.log).getD (i) At)).note)))) rfl rfl (gF rfl) (fun hG105=>Yf (Ai rfl hG105) ⟨rfl,rfl⟩) (Av (gS (Ye rfl rfl (fun hA=>(Ai rfl (BO hA))) fun bb106 hbb107=>(gO fun _=>Af (PQ k 0) rfl rfl (gF rfl) (fun hG108=>AaE IW rfl ⟨rfl,rfl⟩) (Av (gO fun _=>Af (PQ k 1) rfl rfl (gF rfl) (fun hG109=>AaE N4 (Ai rfl hG109) ⟨rfl,rfl⟩) (Av (gO fun _=>Af (St ((((x.1.log).getD (i) At)).name)) rfl rfl (gF rfl) (fun hG110=>XW Et rfl (Ai rfl hG110) (Ac g (QK ((x.1.log).getD (i) At))) ⟨rfl,rfl⟩) (Av (gO fun _=>Af (NI (((((x.1.log).getD (i) At)).name:AgP).length)) rfl rfl (gF rfl) (fun hG111=>YD (l:=(((x.1.log).getD (i) At)).name) Et (Ai rfl hG111) ⟨rfl,rfl⟩) (Av (gO fun _=>Af (.bool (decide ((32)<(((((x.1.log).getD (i) At)).name:AgP).length)))) rfl rfl (gF rfl) (fun hG112=>XX (a:=((((((x.1.log).getD (i) At)).name:AgP).length:Nat):Int)) (b:=((32:Nat):Int)) (Ai rfl hG112) rfl (DK _ .i64 (((((x.1.log).getD (i) At)).name:AgP).length) (32)) ⟨rfl,rfl⟩) (Av (gS (Ye rfl rfl (fun hA=>(Ai rfl (BO hA))) fun bb113 hbb114=> ?_)))))))))))))));refine cB (bb113) rfl (fun u=> ?_) fun u=> ?_
  ·subst hbb107 hbb114;have hbad:Gx x.1.log i=true:=u;refine AC rfl (vr (.bool (false)) rfl) ?_;exact⟨by rw[Pp h1c h2c hlt hbad],hE⟩
  subst hbb107 hbb114;have hbad:Gx x.1.log i=false:=u;refine gS (X6 (xv:=NI i) (yv:=NI 1) n rfl rfl (AI _ _ _ (by have:=hL.log;omega)) (gK (Acz ⟨i+1,T0,T1,ad,ae,rfl,hE,c,by omega,OE hn hbad,trivial⟩ ?_)));show x.1.log.length-(intOf (NI ((i)+(1)))).toNat<x.1.log.length-(intOf (al 49)).toNat;rw[q49];simp only[intOf,AbZ];omega
 refine AC rfl (vr (.bool (true)) rfl) ?_;exact⟨by rw[FH h1c h2c (show x.1.log.length<=i by omega) hn],hE⟩
set_option maxHeartbeats 400000 in
theorem N5(w:Abt)(v:Abs)(l:AgP)(hr:RB w v l)(s:ByteArray)(hl:l.length+s.size+16<=140737488355328):
  Calls Abu 58 #[v, .string s] w fun e w' =>∃v',e = .returned v' /\NewB 5 w w' v' (l++AbU s.size++s.data.toList):=by
 obtain⟨i0,hi,a,b,c⟩:=info_parts O7;have h9:=HH s.size (by omega);have hss:s.data.toList.length=s.size:=by simp
 have HSS:=Ac5 hss;clear hss
 go_enter Tryz.func58,Tryz.ntmps58
 go_wp2_with fail
 refine(KH _ _ l hr (by omega)).mono ?_;rintro e w1 ⟨f,rfl,h1⟩
 go_wp2_with fail
 refine(JI w.heap.size l.length s.size (by omega) f _ w1 h1.own h1.by_.size (by omega)).mono ?_;rintro e w2 ⟨h,rfl,ho,g⟩;have h2:=h1.more g ho
 go_wp2_with (at_builtin;refine C6 _ rfl _ _ 43 9 rfl w.heap.size 5 i0 (.int .u8 0) 1 1 GK hi a b c rfl _ _ _ rfl h2.own (.string s) _ _ rfl (QA Wo _ s) ?c1 ?c2 ?c3 ?_)
 case c1=>have:=HSS.out;rw[this,Aby];unfold maxLen;omega
 case c2=>have:=HSS.out;rw[this,Aby];omega
 case c3=>exact h2.by_.size
 intro v' i hown' hgrow
 go_wp2
 go_ret
 exact⟨v',rfl,h2.more hgrow (by rw[HSS.out,Aby];exact hown')⟩
def AJ(s:Bs):Bs:=AbU s.length++s
theorem Hh(w:Abt)(v:Abs)(l:Bs)(hr:RB w v l)(s:Bs)(hl:l.length+s.length+16<=140737488355328):
  Calls Abu 58 #[v,St s] w fun e w' =>∃v',e = .returned v' /\NewB 5 w w' v' (l++AJ s):=by
 have hs:(⟨s.toArray⟩:ByteArray).size=s.length:=by show s.toArray.size=_;rw[Ab5]
 have h:=N5 w v l hr ⟨s.toArray⟩ (by rw[hs];omega);have e:l++AbU (⟨s.toArray⟩:ByteArray).size++(⟨s.toArray⟩:ByteArray).data.toList=l++AJ s:=by
  unfold AJ;rw[hs,AbV]
 rw[e]at h;exact h
theorem BT{n:Nat}(h:n<=9223372036854775807):(AbU n).length<=9:=HH n (by omega)
def SB(g k lo n c:Nat)(v:Abs):Prop:=∃o,v = .slice (some ⟨g,o,none⟩) n c/\(0<c->o=lo*k)
def Pr(w:Abt)(v:Abs)(n c:Nat)(news:List Abs):Prop:=∃a,v = .slice (some a) n c/\∀j u,news[j]? =some u->w.cell? (a.add j)=some u
theorem SB.src{w:Abt}{g k lo n c:Nat}{v:Abs}{C:List Abs}{T:Abz}{fr:Nat × Nat}(h:SB g k lo n c v)(m:Nat)(hc:0<c\/m=0)(hC:w.heap[g]? =some (.cells C.toArray T fr)){D:List Abs}(hD:(C.drop (lo*k)).take m=D):Pr w v n c D:=by
 obtain⟨o,rfl,ho⟩:=h;subst hD;refine⟨_,rfl,fun j u hu=> ?_⟩;rcases hc with hc | rfl
 ·obtain rfl:=ho hc;rw[AcT];rw[Adr]at hu;split at hu
  ·rw[AdG]at hu;exact Ac hC hu
  ·cases hu
 ·simp at hu
theorem Yi{g k lo n c:Nat}{v x:Abs}(h:SB g k lo n c v)(e:x=v):SB g k lo n c x:=by rw[e];exact h
theorem YW(g k n c:Nat):SB g k 0 n c (.slice (some ⟨g,0,none⟩) n c):=⟨0,rfl,fun _=>(Ad1 _).symm⟩
theorem SB.eq{g k lo lo' n n' c c' :Nat}{v:Abs}(h:SB g k lo n c v)(a:lo=lo')(b:n=n')(e:c=c'):SB g k lo' n' c' v:=by subst a b e;exact h
abbrev Abe:=@SB.eq
theorem Td{P:AbN}{e:Abz}{k b:Nat}(h:(P.info? e).map (fun i=>(i.size,i.bytes,i.zero.map fun z=>(z.cells.size,z.cells.toList.all fun u=>u.oneCell')))=some (k,b,some (k,true))):∃i z,P.info? e=some i/\i.size=k/\i.bytes=b/\i.zero=some z/\z.cells.size=k/\∀u∈z.cells.toList,u.oneCell' =true:=by
 cases hi:P.info? e with
 | none=>rw[hi]at h;cases h
 | some i=>
  rw[hi]at h;simp only[AcO,Adf,Prod.mk.injEq]at h;obtain⟨h1,h2,h3⟩:=h;cases hz:i.zero with
  | none=>rw[hz]at h3;cases h3
  | some z=>
   rw[hz]at h3;simp only[AcO,Adf,Prod.mk.injEq,List.all_eq_true]at h3;exact⟨i,z,rfl,h1,h2,hz,h3.1,h3.2⟩
theorem Ma{z:Abs}(h:∀u∈z.cells.toList,u.oneCell' =true)(n:Nat):∀u∈(Acp z.cells n).toList,u.oneCell' =true:=by
 intro u hu;simp only[Acp,Array.mem_toList_iff,Array.mem_map,Array.mem_range]at hu;obtain⟨i,hi,rfl⟩:=hu;have h0:0<z.cells.size:=by
  rcases Nat.eq_zero_or_pos z.cells.size with e | e
  ·rw[e]at hi;omega
  ·exact e
 have hl:=Nat.mod_lt i h0;rw[getElem!_pos z.cells _ hl];exact h _ (Array.getElem_mem_toList hl)
theorem FW{w:Abt}{g:Nat}{C:Array Abs}:w.grownBy (w.setRow g C) (some g):=⟨rfl,rfl,rfl,by simp,fun k _ hk=>setRow_other w g k _ (fun e=>hk (by rw[e]))⟩
section
variable {P : AbN} {K : Abs -> Abt -> Prop} {ρ : Ah} {w : Abt} {d : Option Tmp} {ty : Abz} {pos : String} {af : Array Ack} {gd : Option (Nat × Bool)}
variable {g k lo n c : Nat} {s x : AbD}
theorem Yq{t e:Abz}(ht:P.underlying t=some (.slice e))(he:∀w' :Abt,(sizeOf e).run P w' = .ok k w'){a b:Option AbD}(h:SB g k lo n c (Ab ρ x))(l r:Nat) 
  (ha:a.map (Ab ρ)=none/\l=0\/∃q,a.map (Ab ρ)=some (.int q (l:Int))) (hb:b.map (Ab ρ)=none/\r=n\/∃q,b.map (Ab ρ)=some (.int q (r:Int))) (h1:l<=r) (h2:r<=c)
  (hk:∀v,SB g k (lo+l) (r-l) (c-l) v->K v w):Yk P K ((execOp (Ab ρ) ⟨d, .slice t x a b none,ty,pos,af,gd⟩).run P w):=by
 obtain⟨o,hx,ho⟩:=h;have hE:P.elem t=e:=by simp[AdF,ht]
 have ht' :P.underlying t=some (.slice (P.elem t)):=by rw[hE];exact ht
 refine AaL (v:=sliced (some ⟨g,o,none⟩) l r c k) (w' :=w) ?_ (hk _ ?_)
 ·unfold execOp;have h1' :(l:Int)<=(r:Int):=by omega
  have h2' :(r:Int)<=(c:Int):=by omega
  have hr:(AdM t (.slice (some ⟨g,o,none⟩) n c) (a.map (Ab ρ)) (b.map (Ab ρ)) none).run P w = .ok (sliced (some ⟨g,o,none⟩) l r c k) w:=by
   rw[run_sliceAt_slice (P:=P) w t _ _ _ _ ht'];rcases ha with ⟨f,rfl⟩ | ⟨q,f⟩ <;> rcases hb with ⟨i,rfl⟩ | ⟨q',i⟩ <;> rw[f,i]
   ·rw[run_slice_all (P:=P) w t _ _ _ ht',hE,he];rfl
   ·rw[run_slice_h (P:=P) w t _ _ _ ht' q' r (by omega) h2',hE,he];rfl
   ·rw[run_slice_l (P:=P) w t _ _ _ ht' q l (by omega) h1',hE,he];rfl
   ·rw[run_slice_lh (P:=P) w t _ _ _ ht' q q' l r (by omega) h1' h2',hE,he];rfl
  simp only[hx,Adl,hr,AbC,AbE,AbB]
 ·refine⟨if c=l then o else o+l*k,?_,fun h=> ?_⟩
  ·unfold sliced;split <;> simp[AcT]
  ·rw[if_neg (by omega),ho (by omega),AcN]
theorem ZN{t e:Abz}(ht:P.underlying t=some (.slice e))(he:∀w' :Abt,(sizeOf e).run P w' = .ok k w'){a b y:AbD}(h:SB g k lo n c (Ab ρ x)){l r m:Nat}{q1 q2 q3:AcG} 
  (ha:Ab ρ a = .int q1 (l:Int)) (hb:Ab ρ b = .int q2 (r:Int)) (hm:Ab ρ y = .int q3 (m:Int)) (h1:l<=r) (h2:r<=m) (h3:m<=c)
  (hk:∀v,SB g k (lo+l) (r-l) (m-l) v->K v w):Yk P K ((execOp (Ab ρ) ⟨d, .slice t x (some a) (some b) (some y),ty,pos,af,gd⟩).run P w):=by
 obtain⟨o,hx,ho⟩:=h;have hE:P.elem t=e:=by simp[AdF,ht]
 have ht' :P.underlying t=some (.slice (P.elem t)):=by rw[hE];exact ht
 refine AaL (v:=sliced (some ⟨g,o,none⟩) l r m k) (w' :=w) ?_ (hk _ ?_)
 ·unfold execOp;have hr:(AdM t (.slice (some ⟨g,o,none⟩) n c) (some (.int q1 (l:Int))) (some (.int q2 (r:Int))) (some (.int q3 (m:Int)))).run P w = .ok (sliced (some ⟨g,o,none⟩) l r m k) w:=by
   rw[run_sliceAt_slice (P:=P) w t _ _ _ _ ht',run_slice_lhm (P:=P) w t _ _ _ ht' q1 q2 q3 l r m (by omega) (by omega) (by omega) (by omega),hE,he];rfl
  simp only[hx,ha,hb,hm,AcO,hr,AbC,AbE,AbB]
 ·refine⟨if m=l then o else o+l*k,?_,fun h=> ?_⟩
  ·unfold sliced;split <;> simp[AcT]
  ·rw[if_neg (by omega),ho (by omega),AcN]
theorem YX{t e:Abz}(ht:P.underlying t=some (.slice e))(h:SB g k lo n c (Ab ρ x))(hk:K (NI n) w):Yk P K ((execOp (Ab ρ) ⟨d, .call ⟨.builtin .len,#[x],#[t]⟩,ty,pos,af,gd⟩).run P w):=by
 obtain⟨o,hx,-⟩:=h;exact Zc ht hx hk
theorem ZA{t e:Abz}(ht:P.underlying t=some (.slice e))(h:SB g k lo n c (Ab ρ x))(hk:K (NI c) w):Yk P K ((execOp (Ab ρ) ⟨d, .call ⟨.builtin .cap,#[x],#[t]⟩,ty,pos,af,gd⟩).run P w):=by
 obtain⟨o,hx,-⟩:=h;have hE:P.elem t=e:=by simp[AdF,ht]
 refine AaL (v:=NI c) (w' :=w) ?_ hk;have hr:=run_cap_slice (P:=P) w t ty (some ⟨g,o,none⟩) n c (by rw[hE];exact ht);unfold execOp;simp only[resolve,invoke,builtin,hx,AbI,AbL,AbP,AbC,hr,AbB,AbE];rfl
theorem YZ{dT sT e T:Abz}(ht:P.underlying dT=some (.slice e))(he:∀w' :Abt,(sizeOf e).run P w' = .ok k w')(hd:SB g k lo n c (Ab ρ s))(hc:0<c){C:List Abs}(hC:w.heap[g]? =some (.cells C.toArray T (0,0))) 
  {b c2:Nat} (m:Nat) {news:List Abs} (hs:Pr w (Ab ρ x) b c2 news) (hm:Ad4 b n=m) (hl:news.length=m*k) (h1:∀u∈news,u.oneCell' =true) (hfit:lo*k+m*k<=C.length)
  (hk:∀w',w'.heap[g]? =some (.cells (C.take (lo*k)++news++C.drop (lo*k+m*k)).toArray T (0,0))->w.grownBy w' (some g)->w'.heap.size=w.heap.size->K (NI m) w'):
  Yk P K ((execOp (Ab ρ) ⟨d, .call ⟨.builtin .copy,#[s,x],#[dT,sT]⟩,ty,pos,af,gd⟩).run P w):=by
 obtain⟨o,hx,ho⟩:=hd;obtain rfl:=ho hc;obtain⟨a,hy,hn⟩:=hs;have hst:=run_storeCells_at P g (lo*k) T news 0 C.toArray w hC (by simp only[Ab5];omega) h1;simp only[AeR,hl]at hst;have hf:=run_firstCells_some (P:=P) w k m a b c2 news hl hn;refine AaL (v:=NI m) (w' :=w.setRow g (C.take (lo*k)++news++C.drop (lo*k+m*k)).toArray) ?_ (hk _ (setRow_heap w g C.toArray _ T (0,0) hC) FW (by simp));unfold execOp;have hr:(Age #[dT,sT] ty #[.slice (some ⟨g,lo*k,none⟩) n c, .slice (some a) b c2]).run P w = .ok (NI m) (w.setRow g (C.take (lo*k)++news++C.drop (lo*k+m*k)).toArray):=by
  simp only[Age,List.getElem?_toArray,List.getElem?_cons_zero,List.getElem?_cons_succ,AbC,run_underlying ht,AbB,he,Builtin.lenOf,AbE,hm,hf,hst];rfl
 simp only[resolve,invoke,builtin,hx,hy,AbI,AbL,AbP,AbC,hr,AbB,AbE]
theorem ZO{t e:Abz}{i:TypeInfo}(ht:P.underlying t=some (.slice e))(hi:P.info? e=some i)(hik:i.size=k)(hd:SB g k 0 n c (Ab ρ s))(hc:0<c){C:List Abs}(hC:w.heap[g]? =some (.cells C.toArray e (0,0))) 
  {m c2:Nat} {news:List Abs} (hs:Pr w (Ab ρ x) m c2 news) (hl:news.length=m*k) (h1:∀u∈news,u.oneCell' =true) (hroom:n+m<=c) (hfit:(n+m)*k<=C.length)
  (hk:∀w',w'.heap[g]? =some (.cells (C.take (n*k)++news++C.drop (n*k+m*k)).toArray e (0,0))->w.grownBy w' (some g)->w'.heap.size=w.heap.size->K (.slice (some ⟨g,0,none⟩) (n+m) c) w'):
  Yk P K ((execOp (Ab ρ) ⟨d, .call ⟨.builtin .append,#[s,x],#[t,t]⟩,ty,pos,af,gd⟩).run P w):=by
 obtain⟨o,hx,ho⟩:=hd;obtain rfl:o=0:=by rw[ho hc,Ad1]
 obtain⟨a,hy,hn⟩:=hs;subst hik;have hr:=run_append_room (P:=P) w t ty e i ht hi g n c C.toArray hC a m c2 news hl hn h1 hroom (by rw[hl,Ab5,<-AcN];exact hfit);simp only[hl]at hr;refine AaL (v:= .slice (some ⟨g,0,none⟩) (n+m) c) (w' :=w.setRow g (C.take (n*i.size)++news++C.drop (n*i.size+m*i.size)).toArray) ?_ (hk _ (setRow_heap w g C.toArray _ e (0,0) hC) FW (by simp));unfold execOp;simp only[resolve,invoke,builtin,hx,hy,AbI,AbL,AbP,AbC,hr,AbB,AbE]
theorem Z4{t e T:Abz}{i:TypeInfo}{z:Abs}(ht:P.underlying t=some (.slice e))(hi:P.info? e=some i)(hz:i.zero=some z)(hzs:z.cells.size=k)(hd:SB g k lo n c (Ab ρ s))(hc:0<c)(hn:0<n){C:List Abs}(hC:w.heap[g]? =some (.cells C.toArray T (0,0))) 
  (h1:∀u∈(Acp z.cells n).toList,u.oneCell' =true) (hfit:lo*k+n*k<=C.length)
  (hk:∀w' Z,Z.length=n*k->w'.heap[g]? =some (.cells (C.take (lo*k)++Z++C.drop (lo*k+n*k)).toArray T (0,0))->w.grownBy w' (some g)->w'.heap.size=w.heap.size->K (.tuple #[]) w'):
  Yk P K ((execOp (Ab ρ) ⟨d, .call ⟨.builtin .clear,#[s],#[t]⟩,ty,pos,af,gd⟩).run P w):=by
 obtain⟨o,hx,ho⟩:=hd;obtain rfl:=ho hc;have hZ:(Acp z.cells n).toList.length=n*k:=by rw[AcZ,size_zeroCells,hzs]
 have hst:=run_storeCells_at P g (lo*k) T (Acp z.cells n).toList 0 C.toArray w hC (by rw[hZ];simp only[Ab5];omega) h1;simp only[AeR,hZ]at hst;obtain⟨m,rfl⟩:∃m,n=m+1:=⟨n-1,by omega⟩;have hr:(Builtin.clear_ #[t] ty #[.slice (some ⟨g,lo*k,none⟩) (m+1) c]).run P w = .ok (.tuple #[]) (w.setRow g (C.take (lo*k)++(Acp z.cells (m+1)).toList++C.drop (lo*k+(m+1)*k)).toArray):=by
  simp[Builtin.clear_,run_underlying ht,zeroValue,typeInfo,hi,hz,hst]
 refine AaL (v:= .tuple #[]) (w' :=_) ?_ (hk _ _ hZ (setRow_heap w g C.toArray _ T (0,0) hC) FW (by simp));unfold execOp;simp only[resolve,invoke,builtin,hx,AbI,AbL,AbP,AbC,hr,AbB,AbE]
theorem Zj{t tn e T:Abz}{kn kq:AcG}{i:TypeInfo}{z:Abs}(ht:P.underlying t=some (.slice e))(htn:P.underlying tn=some (.int kn))(hi:P.info? e=some i)(hz:i.zero=some z)(hik:i.size=k)(hzs:z.cells.size=k)(a:0<k)(hd:SB g k 0 n c (Ab ρ s))(hc:0<c){C:List Abs}(hC:w.heap[g]? =some (.cells C.toArray T (0,0))) 
  {m:Nat} (hy:Ab ρ x = .int kq (m:Int)) (hm:0<m) (hroom:c<n+m) (hfit:n*k<=C.length) (hb:(n+m)*i.bytes<=140737488355328) (h63:n+m<=maxLen)
  (hk:∀b w' cap Z,w.heap.size=b->cap<=maxLen->n+m<=cap->Z.length=cap*k-n*k->w'.heap[b]? =some (.cells (C.take (n*k)++Z).toArray e (0,0))->Ext w w' ->w'.heap.size=w.heap.size+1->K (.slice (some ⟨b,0,none⟩) (n+m) cap) w'):
  Yk P K ((execOp (Ab ρ) ⟨d, .call ⟨.builtin .append,#[s,x],#[t,tn]⟩,ty,pos,af,gd⟩).run P w):=by
 obtain⟨o,hx,ho⟩:=hd;obtain rfl:o=0:=by rw[ho hc,Ad1]
 subst hik;have holds:∀j u,(C.take (n*i.size))[j]? =some u->w.drew.cell? ((⟨g,0,none⟩:Addr).add j)=some u:=fun j u hu=>by
  rw[Adr]at hu;split at hu
  ·rw[AcT,Adc];exact Ac (w:=w.drew) hC hu
  ·cases hu
 have hl:(C.take (n*i.size)).length=n*i.size:=by rw[AbR];omega
 have hr:=Lib.run_append_grow_zeros (P:=P) w t tn ty e i z kq kn ht htn hi hz (some ⟨g,0,none⟩) n c (C.take (n*i.size)) (run_firstCells_some w.drew i.size n ⟨g,0,none⟩ n c _ hl holds) m hm a hroom (by have:=h63;simp only[maxLen]at this;omega)
  (Abw (AdQ _ (Nat.le_add_left m n)) (Abw hb (by decide))) (growslice_fits hroom hb)
 have hge:=grownCap_ge w (n+m) c e;have hcm:=grownCap_le_maxLen w (n+m) c e h63;refine AaL (v:= .slice (some ⟨w.heap.size,0,none⟩) (n+m) (grownCap w (n+m) c e)) (w' :=w.drew.alloc (.cells ((C.take (n*i.size)).toArray++Acp z.cells m++Acp z.cells (grownCap w (n+m) c e-(n+m))) e)) ?_
  (hk w.heap.size _ _ ((Acp z.cells m).toList++(Acp z.cells (grownCap w (n+m) c e-(n+m))).toList) rfl hcm hge ?_ ?_ (Aaa ⟨rfl,rfl,rfl,by simp,fun k hk _=>heap_alloc_old w.drew _ hk⟩) (by simp))
 ·unfold execOp;simp only[resolve,invoke,builtin,hx,hy,AbI,AbL,AbP,AbC,hr,AbB,AbE]
 ·rw[Aby,AcZ,AcZ,size_zeroCells,size_zeroCells,hzs,<-AcN,<-Nat.sub_mul]
  congr 1
  omega
 ·have:=heap_alloc_new w.drew (.cells ((C.take (n*i.size)).toArray++Acp z.cells m++Acp z.cells (grownCap w (n+m) c e-(n+m))) e);rw[show(C.take (n*i.size)++((Acp z.cells m).toList++(Acp z.cells (grownCap w (n+m) c e-(n+m))).toList)).toArray=(C.take (n*i.size)).toArray++Acp z.cells m++Acp z.cells (grownCap w (n+m) c e-(n+m))from by
   apply Array.toList_inj.1
   simp]
  exact this
end
theorem KN{P:AbN}{w:Abt}{tS tR e:Abz}(ht:P.underlying tS=some (.slice e)){k:Nat}(hz:∀w,(Go.sizeOf e).run P w = .ok k w){a b:Nat}{v x:Abs}{lo' n' c' lo n c:Nat}(hv:SB a k lo' n' c' v)(hx:SB b k lo n c x)(hne:a≠b){A B:List Abs}{tA tB:Abz} 
  (hA:w.heap[a]? =some (.cells A.toArray tA (0,0))) (hB:w.heap[b]? =some (.cells B.toArray tB (0,0))) (h0:B≠ []):
  (Extern.SlicesOverlaps.overlaps #[tS,tS] #[tR] #[v,x]).run P w = .ok (.bool false) w:=by
 obtain⟨o,rfl,-⟩:=hx;obtain⟨oa,rfl,-⟩:=hv;exact Lib.run_overlaps_apart w tS tR e ht k hz ⟨a,oa,none⟩ ⟨b,o,none⟩ n' c' n c hne tA tB A.length B.length (by simp[World.shape?,hA]) (by simp[World.shape?,hB]) (by simpa using h0) (by simp[World.frozen?,hA]) (by simp[World.frozen?,hA])
theorem GZ{P:AbN}{e:Abz}{k b:Nat}(h:(P.info? e).map (fun i=>(i.zero.map (fun z=>z.cells.size),i.size,i.bytes))=some (some k,k,b)):∃z,(P.info? e).map (fun i=>(i.zero,i.size,i.bytes))=some (some z,k,b)/\z.cells.size=k:=by
 cases hi:P.info? e with
 | none=>rw[hi]at h;cases h
 | some i=>
  rw[hi]at h;simp only[AcO,Adf,Prod.mk.injEq]at h;cases hz:i.zero with
  | none=>rw[hz]at h;cases h.1
  | some z=>
   rw[hz]at h;simp only[AcO,Adf]at h;exact⟨z,by simp[hz,h.2.1,h.2.2],h.1⟩
section
variable {P : AbN} {K : Abs -> Abt -> Prop} {ρ : Ah} {w : Abt} {d : Option Tmp} {ty : Abz} {pos : String} {af : Array Ack} {gd : Option (Nat × Bool)}
theorem Z5{t e s:Abz}{u:TypeDesc}(hs:P.underlying s=some u)(ht:P.underlying t=some (.slice e))(he:P.underlying e=some (.int .u8)){x:AbD}{l:AgP}(hx:Ab ρ x=St l)(hl:l.length<=9223372036854775807) 
  (hk:∀v w',RB w' v l->Ext w w' ->(∀k,v.ownBlock=some k->w.heap.size<=k/\k<w'.heap.size)->K v w'):Yk P K ((execOp (Ab ρ) ⟨d, .convert s t x,ty,pos,af,gd⟩).run P w):=by
 have hr:=Lib.run_convert_string_bytes (P:=P) w s t e ⟨l.toArray⟩ hs ht he;have hsz:(⟨l.toArray⟩:ByteArray).size=l.length:=by simp[ByteArray.size]
 rw[hsz]at hr;refine AaL (v:= .slice (some ⟨w.heap.size,0,none⟩) l.length (grownCap w l.length 0 e)) (w' :=Lib.bytesWorld w e ⟨l.toArray⟩) ?_ (hk _ _ ?_ (Lib.bytesWorld_below w e _) ?_)
 ·unfold execOp;simp only[hx,hr,AbC,AbE,AbB]
 ·refine⟨by rw[AbH,Nat.mul_one],_,_,rfl,grownCap_ge w _ _ _,grownCap_le_maxLen w _ _ _ (by simpa [maxLen] using hl),(fun h=>by cases h),fun a ha j u hu=> ?_⟩;cases ha;have hj:j<l.length:=by have:=(AbW.1 hu).1;rwa [AbH]at this
  have hc:=Lib.bytesWorld_cell w e ⟨l.toArray⟩ j (by rw[hsz];exact hj);rw[show(⟨w.heap.size,0,none⟩:Addr).add j=⟨w.heap.size,j,none⟩ by simp[Addr.add];exact fun h=>h.symm];rw[hc,<-hu,Vm hj]
 ·intro k hk;cases hk;rw[Lib.bytesWorld_size];exact⟨Abx _,Nat.lt_succ_self _⟩
end
theorem Lk{α:Type}{l:List α}{i:Nat}{d:α}(h:i<l.length):l.take i++ [l.getD i d]=l.take (i+1):=by
 rw[List.take_add_one,AbG h,AbA,AbG h];rfl
open Go.ChangeShapes Go.WideShapes Go.ChangeAt Go.Deep
instance:Inhabited Ax:=⟨Az⟩
theorem MI{H:Type}{enc:Abz × Abs->H}{W:Abt}:Opn enc Abu W 77 updC (fun x:Ax=>x.name.length<=9223372036854775807):=fun fuel cs x h=>by
 have ht:Tryz.prog.underlying 77=some (.struct (Tryz.prog.fieldsOf 77)):=by kernel_rfl
 obtain⟨a0,a,k0⟩:=FF (i:=0) (ty:=5) (o:=0) (k:=1) ht h (by kernel_rfl) (by kernel_rfl) (Opn.u8 (by kernel_rfl));obtain⟨a1,b,k1⟩:=FF (i:=1) (ty:=9) (o:=1) (k:=1) ht h (by kernel_rfl) (by kernel_rfl) (Aap (by kernel_rfl));obtain⟨a2,c,k2⟩:=FF (i:=2) (ty:=33) (o:=2) (k:=32) ht h (by kernel_rfl) (by kernel_rfl) (Opn.id (e:=5) (by kernel_rfl) (by kernel_rfl) (by kernel_rfl) (by kernel_rfl));obtain⟨a3,f,k3⟩:=FF (i:=3) (ty:=33) (o:=34) (k:=32) ht h (by kernel_rfl) (by kernel_rfl) (Opn.id (e:=5) (by kernel_rfl) (by kernel_rfl) (by kernel_rfl) (by kernel_rfl));have hl:cs.drop 66= []:=AdD (Afv ((O9 ht h).trans (by kernel_rfl)));refine⟨⟨a0,a1,a2,a3⟩,?_,k1⟩;rw[show cs=cs.drop 0 from rfl];rw[a];rw[show cs.drop (0+1)=_ from b];rw[show cs.drop (1+1)=_ from c];rw[show cs.drop (2+32)=_ from f];rw[show cs.drop (34+32)= []from hl];simp[updC]
theorem Rg{H:Type}{enc:Abz × Abs->H}{W:Abt}{r:Reach}{b0:Nat}{v:Abs}{d:DataW H}{ps:List MemPlace}(hval:Value.okWide Abu W r b0 41 v)(hd:DataW.Trod enc Abu W 0 (fun _=>true) true 41 v d ps):
  ∃l:List Ax,RG 66 updC W v l/\(∀u∈l,u.name.length<=9223372036854775807)/\∀p∈ps,p.block<W.heap.size:=by
 obtain⟨fuel,hf⟩:=hd;have hlt:=DataW.trod_lt fuel _ _ _ hf;obtain⟨a0,b,c0,rfl⟩:=okWide_slice (e:=77) (by kernel_rfl) hval;obtain⟨x,h1,h2,h3⟩:=Opn.slice (e:=77) (by kernel_rfl) (by kernel_rfl) (by decide) MI (fun a _=>Cr a) _ _ _ hf;have h1: [AbJ a0 b c0]= [x.1]:=h1;obtain h1:=(List.cons.inj h1).1;exact⟨x.2,by rw[h1];exact h2,h3,hlt⟩
theorem OG.block{α:Type}{b k:Nat}{t:Abz}{enc:α->List Abs}{w:Abt}{v:Abs}{l:List α}(h:OG b t k enc w v l){i:Nat}(hi:i<l.length):∃g,v.ownBlock=some g:=by
 obtain⟨-,-,⟨-,h⟩ | ⟨g,cap,cur,rfl,-⟩⟩:=h
 ·omega
 ·exact⟨g,rfl⟩
theorem Xy{b:Nat}{t:Abz}{w:Abt}{v:Abs}{n z:Nat}{xs:List Abs}(h:w.ownsRow b t z v n xs){i:Nat}(hi:i<n):∃g,v.ownBlock=some g:=by
 obtain⟨-,⟨-,h⟩ | ⟨g,cap,cur,rfl,-⟩⟩:=h
 ·omega
 ·exact⟨g,rfl⟩
section
variable {P : AbN} {K : Abs -> Abt -> Prop} {ρ : Ah} {w : Abt} {d : Option Tmp} {ty : Abz} {pos : String} {af : Array Ack} {gd : Option (Nat × Bool)}
theorem Aaj{k:Nat}{t e:Abz}(ht:P.underlying t=some (.slice e))(he:∀w' :Abt,(sizeOf e).run P w' = .ok k w'){b n g:Nat}{xs:List Abs}{e' :Abz}{v:Abs}{x y:AbD}(hx:Ab ρ x=v)(h:w.ownsRow b e' k v n xs)(hg:v.ownBlock=some g){kd:AcG}{i:Nat}(hy:Ab ρ y = .int kd (i:Int))(hi:i<n) 
  (hk:K (PQ g (i*k)) w):Yk P K ((execOp (Ab ρ) ⟨d, .indexAddr t x y,ty,pos,af,gd⟩).run P w):=by
 obtain⟨-,⟨-,h0⟩ | ⟨g',cap,cur,rfl,-⟩⟩:=h
 ·omega
 ·obtain rfl:g' =g:=by simpa [Acb] using hg
  refine AaL (v:=PQ g' (i*k)) (w' :=w) ?_ hk;have hE:P.elem t=e:=by simp[AdF,ht]
  have hr:=run_indexAt_slice (P:=P) w t ⟨g',0,none⟩ n cap kd (i:Int) (by rw[hE];exact ht);rw[if_pos (by omega),hE,he]at hr;unfold execOp;simp only[hx,hy,AbC,hr,AbB,AbE];simp[AcT]
end
section
variable {P : AbN}
theorem Id{t e:Abz}{size:Nat}(ht:P.underlying t=some (.slice e))(he:∀w' :Abt,(sizeOf e).run P w' = .ok size w'){w:Abt}{v:Abs}{n:Nat}{xs:List Abs}(hr:Reads w size v n xs)(lo hi:Option Abs)(l h:Nat)(hlh:l<=h)(hn:h<=n) 
  (hlo:lo=none/\l=0\/∃k,lo=some (.int k l)) (hhi:hi=none/\h=n\/∃k,hi=some (.int k h)):
  ∃ao c,((∀w:Abt,(AdM t v lo hi none).run P w = .ok (.slice ao (h-l) c) w)/\(AbJ ao (h-l) c).ownBlock=v.ownBlock)/\Reads w size (.slice ao (h-l) c) (h-l) ((xs.drop (l*size)).take ((h-l)*size)):=by
 obtain⟨h1,ao,cap,rfl,h2,h3,h4,h5⟩:=hr;have hE:P.elem t=e:=by simp[AdF,ht]
 have ht' :P.underlying t=some (.slice (P.elem t)):=by rw[hE];exact ht
 refine⟨if cap=l then ao else ao.map (·.add (l*size)),cap-l,⟨?_,?_⟩,?_,_,_,rfl,by omega,by omega,?_,?_⟩
 ·intro w;rw[run_sliceAt_slice (P:=P) w t _ _ _ _ ht'];have hl' :(l:Int)<=(h:Int):=by omega
  have hh' :(h:Int)<=(cap:Int):=by omega
  have hn' :(l:Int)<=(n:Int):=by omega
  rcases hlo with ⟨rfl,rfl⟩ | ⟨k,rfl⟩ <;> rcases hhi with ⟨rfl,rfl⟩ | ⟨k',rfl⟩
  ·rw[run_slice_all (P:=P) w t ao h cap ht',hE,he];simp[Acj,sliced]
  ·rw[run_slice_h (P:=P) w t ao n cap ht' k' h (by omega) hh',hE,he];simp[Acj,sliced]
  ·rw[run_slice_l (P:=P) w t ao h cap ht' k l (by omega) hl',hE,he];simp[Acj,sliced]
  ·rw[run_slice_lh (P:=P) w t ao n cap ht' k k' l h (by omega) hl' hh',hE,he];simp[Acj,sliced]
 ·cases ao with
  | none=>simp[Acb]
  | some x=>
   split
   ·rfl
   ·simp only[AcO,Acb,Adf];unfold Addr.add;split <;> rfl
 ·rw[AbR,AbS,h1];have:(h-l)*size<=n*size-l*size:=by rw[<-Nat.sub_mul];exact AdQ _ (by omega)
  omega
 ·intro hnone;have:ao=none:=by
   cases ao with
   | none=>rfl
   | some x=>split at hnone <;> simp at hnone
  obtain⟨h6,h7⟩:=h4 this;omega
 ·intro a ha j u hu;have hj:j<((xs.drop (l*size)).take ((h-l)*size)).length:=(AbW.1 hu).1;have hj2:j<(h-l)*size:=by rw[AbR]at hj;omega
  have hhl:h-l≠0:=fun e=>by rw[e]at hj2;simp at hj2
  rw[if_neg (by omega)]at ha;cases ao with
  | none=>simp at ha
  | some x=>
   simp at ha;subst ha;rw[FQ];refine h5 x rfl _ _ ?_;rw[Adr,if_pos hj2,AdG]at hu;exact hu
end
section
variable {P : AbN} {K : Abs -> Abt -> Prop} {ρ : Ah} {w w0 : Abt} {d : Option Tmp} {ty : Abz} {pos : String} {af : Array Ack} {gd : Option (Nat × Bool)}
variable {α : Type} {k : Nat} {enc : α -> List Abs} {t e : Abz}
theorem Za(ht:P.underlying t=some (.slice e))(he:∀w' :Abt,(sizeOf e).run P w' = .ok k w'){x lo:AbD}{v:Abs}{xs:List α}(hx:Ab ρ x=v)(h:RG k enc w0 v xs){kd:AcG}{l:Nat}(hlo:Ab ρ lo = .int kd (l:Int))(hl:l<=xs.length) 
  (hk:∀v',RG k enc w0 v' (xs.drop l)->v'.ownBlock=v.ownBlock->K v' w):Yk P K ((execOp (Ab ρ) ⟨d, .slice t x (some lo) none none,ty,pos,af,gd⟩).run P w):=by
 obtain⟨ao,c,⟨hrun,hb⟩,hR⟩:=Id ht he h.2 (some (.int kd l)) none l xs.length hl (Abx _) (.inr ⟨kd,rfl⟩) (.inl ⟨rfl,rfl⟩);have hR' :=RG.cut h.1 hl (Abx _) hR;rw[Ab8 (by rw[AbS];exact Abx _)]at hR';refine AaL (v:= .slice ao (xs.length-l) c) (w' :=w) ?_ (hk _ hR' hb);unfold execOp;simp only[hx,hlo,AcO,Adl,hrun,AbC,AbE,AbB]
end
section
variable {P : AbN} {K : Abs -> Abt -> Prop} {ρ : Ah} {w : Abt} {d : Option Tmp} {ty : Abz} {pos : String} {af : Array Ack} {gd : Option (Nat × Bool)}
theorem Aay{t ty2:Abz}{x y:AbD}{l m:AgP}(hx:Ab ρ x=St l)(hy:Ab ρ y=St m)(hk:K (.bool (!(Ab4 l m||l==m))) w):Yk P K ((execOp (Ab ρ) ⟨d, .binOp .gtr t x y ty2,ty,pos,af,gd⟩).run P w):=by
 refine AaL (v:= .bool (!(Ab4 l m||l==m))) (w' :=w) ?_ hk;unfold execOp;simp only[hx,hy,eqGuard,Aca,Op.stringOp,EY,AbC,AbE];rfl
end
def DG(a b:AgP):Int:=if Ab4 a b=true then -1 else if(!(Ab4 a b||a==b))=true then 1 else 0
theorem MJ{a b:AgP}:DG a b<0↔a<b:=by
 unfold DG;rw[bytesLess_eq];by_cases h:a<b
 ·simp[h]
 ·simp only[h,decide_false,Bool.false_eq_true,if_false,iff_false];split <;> omega
theorem Rh{a b:AgP}:DG a b=0↔a=b:=by
 unfold DG;rw[bytesLess_eq];by_cases h:a<b
 ·simp only[h,decide_true,if_true];constructor
  ·intro e;omega
  ·rintro rfl;exact absurd h (List.lt_irrefl _)
 ·simp only[h,decide_false,Bool.false_eq_true,if_false,Bool.false_or];by_cases e:a=b
  ·subst e;simp
  ·simp[e]
def Dq(l:List AF):Prop:=∀i j,i<j->j<l.length->(l.getD i dNmd).name<(l.getD j dNmd).name
def IH(l:List AF)(s:AgP)(p:Nat):Prop:=p<=l.length/\(∀j,j<p->(l.getD j dNmd).name<s)/\(∀j,p<=j->j<l.length->¬(l.getD j dNmd).name<s)
theorem Ri{l:List AF}{s:AgP}{m:Nat}(hs:Dq l)(hm:m<l.length)(h:(l.getD m dNmd).name<s):∀j,j<m+1->(l.getD j dNmd).name<s:=fun j hj=>by
 by_cases e:j=m
 ·rw[e];exact h
 ·exact Afg (hs j m (by omega) hm) h
theorem J3{l:List AF}{s:AgP}{m:Nat}(hs:Dq l)(h:¬(l.getD m dNmd).name<s):∀j,m<=j->j<l.length->¬(l.getD j dNmd).name<s:=fun j hj hl hk=>by
 by_cases e:m=j
 ·subst e;exact h hk
 ·exact h (Afg (hs m j (by omega) hl) hk)
theorem ML:Tryz.prog.underlying 3=some (.int .i64):=by kernel_rfl
theorem J4:Tryz.prog.underlying 198=some (.int .u64):=by kernel_rfl
theorem J5:Plain Abu 194:=fun _ _=>by kernel_rfl
theorem Ie(w:Abt)(n:AF)(s:Bs):
  Calls Abu 194 #[.agg (nmdC n).toArray,St s] w fun e w' =>e = .returned (.int .i64 (DG n.name s))/\Ext w w' :=by
 refine gG (args:= [.agg (nmdC n).toArray,St (s)]) Tryz.func194 rfl 15 rfl rfl ?_;have hE:=AaF w;refine gS (AaV (vr (.agg (nmdC n).toArray) rfl) fun h i j f b k=> ?_);have g:=f;clear f;have o:h<i.heap.size:=by omega
 refine gS (AaE Gy rfl (gS (XW Et rfl rfl (Ac g (EI n)) (gS (ZT (l:=n.name) (m:=s) (.inl rfl) rfl rfl (Ab4 n.name s) rfl ?_)))));refine cB (Ab4 n.name s) rfl (fun a=> ?_) fun a=> ?_
 ·refine AC rfl (vr (.int .i64 (-1:Int)) rfl) ?_;have hE:=hE.trans b;exact⟨congrArg AcW (congrArg (AdH .i64) (by unfold DG;(rw[if_pos a]) <;> rfl)),hE⟩
 refine gS (AaE Gy rfl (gS (XW Et rfl rfl (Ac g (EI n)) (gS (Aay (l:=n.name) (m:=s) rfl rfl ?_)))));refine cB (!(Ab4 n.name s||n.name==s)) rfl (fun c=> ?_) fun c=> ?_
 ·refine AC rfl (vr (NI 1) rfl) ?_;have hE:=hE.trans b;exact⟨congrArg AcW (congrArg (AdH .i64) (by unfold DG;(rw[if_neg (by rw[a];decide),if_pos c]) <;> rfl)),hE⟩
 refine AC rfl (vr (NI 0) rfl) ?_;have hE:=hE.trans b;exact⟨congrArg AcW (congrArg (AdH .i64) (by unfold DG;(rw[if_neg (by rw[a];decide),if_neg (by rw[c];decide)]) <;> rfl)),hE⟩
theorem Ps(w:Abt)(v:Abs)(l:List AF)(hr:RG 33 nmdC w v l)(hl:l.length<=1000)(hs:Dq l)(s:Bs):
  Calls Abu 193 #[v,St s, .func (.func 194) #[] #[]] w fun e w' =>(∃p,e = .returned (.tuple #[NI p, .bool (decide (p<l.length)&&decide ((DG (l.getD p dNmd).name s)=((0:Nat):Int)))])/\IH l s p)/\Ext w w' :=by
 refine FU (args:= [v,St (s), .func (.func 194) #[] #[]]) Tryz.func193 rfl 49 rfl rfl ?_;have hE:=AaF w;refine gS (X8 EA (X7 hr rfl) (gL (fun(ρ:Ah) (wz:Abt)=>∃i:Nat,∃k:Nat,ρ 0=(v:Abs)/\ρ 1=(St (s):Abs)/\ρ 2=(.func (.func 194) #[] #[]:Abs)/\ρ 6=(NI 0:Abs)/\ρ 7=(.bool (false):Abs)/\ρ 8=(NI l.length:Abs)/\ρ 9=(NI i:Abs)/\ρ 10=(NI k:Abs)/\RG 33 nmdC wz v l/\Ext w wz/\(i<=k)/\(k<=l.length)/\(∀j,j<i->(l.getD j dNmd).name<s)/\(∀j,k<=j->j<l.length->¬(l.getD j dNmd).name<s)/\True) (fun ρ _=>(intOf (ρ 10)).toNat-(intOf (ρ 9)).toNat) ⟨0,l.length,rfl,rfl,rfl,rfl,rfl,rfl,rfl,rfl,hr,hE,AbQ _,Abx _,fun j hj=>absurd hj (AcK _),fun j h1 h2=>by omega,trivial⟩ ?_));clear hr hE;rintro f w6 ⟨i,k,n,T1,o,y,z,t,c,g,hr,hE,hik,hkl,hlo,hhi,-⟩;have q10:=g;have q9:=c;refine gS (XX (a:=(i:Nat)) (b:=(k:Nat)) c g (Bg _ _ _ _) ?_);refine cD rfl (fun aa=> ?_) fun aa=> ?_
 ·have hlt:i<k:=aa;have hm0:((i+k)/2^(1))<l.length:=by omega
  refine gS (X6 (xv:=NI i) (yv:=NI k) c g rfl (AI _ _ _ (by omega)) (gS (YL ML J4 rfl (S7 ((i)+(k)) (by omega)) (gS (X6 (xv:= .int .u64 (((i)+(k):Nat):Int)) (yv:= .int .u64 ((1:Nat):Int)) rfl rfl rfl (Vn _ _ _ _ (by omega)) (gS (YL J4 ML rfl (Jj (((i)+(k))/2^(1)) (by omega)) ?_)))))));have ad:(nmdC (l.getD (((i)+(k))/2^(1)) dNmd)).length=33:=(AaT hr dNmd (by omega));refine gS (Yj EA JZ (by decide) dNmd (X7 hr n) rfl (by omega) fun ae q=>(gS (X3 (Yo q rfl) (Le).choose_spec rfl (by rw[BB];exact J1) (gS (Ys J5 (caps:= #[]) o #[.agg (nmdC (l.getD (((i)+(k))/2^(1)) dNmd)).toArray,St (s)] (by simp only[AbI,AbL,AbP,Ach,Ab2,Acd];exact congrArg Ab3 (B2 rfl T1)) ((Ie _ (l.getD (((i)+(k))/2^(1)) dNmd) s).mono ?_))))));rintro e af ⟨rfl,m⟩;refine⟨_,rfl,?_⟩;have q:=Aa4 q m;refine gS (XX rfl rfl (U0 _ .i64 ((DG (l.getD (((i)+(k))/2^(1)) dNmd).name s):Int) ((0:Nat):Int)) ?_);clear q;refine cD rfl (fun u=> ?_) fun u=> ?_
  ·have hr:=hr.keep m;have hE:=hE.trans m;refine gS (X6 (xv:=NI (((i)+(k))/2^(1))) (yv:=NI 1) rfl rfl rfl (AI _ _ _ (by omega)) (gK (Acz ⟨((i+k)/2^(1))+1,k,n,T1,o,y,z,t,rfl,g,hr,hE,by omega,by omega,Ri hs (by omega) (MJ.1 u),hhi,trivial⟩ ?_)));show(intOf (f 10)).toNat-(intOf (NI ((((i)+(k))/2^(1))+(1)))).toNat<(intOf (f 10)).toNat-(intOf (f 9)).toNat;rw[g,q9];simp only[intOf,AbZ];omega
  have hr:=hr.keep m;have hE:=hE.trans m;refine gK (Acz ⟨i,((i+k)/2^(1)),n,T1,o,y,z,t,c,rfl,hr,hE,by omega,by omega,hlo,J3 hs (fun h=>u (MJ.2 h)),trivial⟩ ?_);show(intOf (NI (((i)+(k))/2^(1)))).toNat-(intOf (f 9)).toNat<(intOf (f 10)).toNat-(intOf (f 9)).toNat;rw[c,q10];simp only[intOf,AbZ];omega
 refine gS (XX (a:=(i:Nat)) (b:=(l.length:Nat)) c t (Bg _ _ _ _) (gO fun _=>Af (.func (.func 194) #[] #[]) rfl rfl (gT rfl) (fun hG17=>AaM o ⟨rfl,rfl⟩) (Av (gO fun _=>Af (v) rfl rfl (gT rfl) (fun hG18=>AaM n ⟨rfl,rfl⟩) (Av (gO fun _=>Af (NI i) rfl rfl (gT rfl) (fun hG19=>AaM c ⟨rfl,rfl⟩) (Av ?_)))))));have ag:((decide ((i)<(l.length))))=true->(nmdC (l.getD (i) dNmd)).length=33:=fun hG20=>(AaT hr dNmd (by first | omega | (simp only[gA,gB,gC,gD,gE]at hG20;omega)));refine gO fun _=>QO (fun x=>PR (nmdC (l.getD (i) dNmd)) x w6) rfl rfl (gT (vr (.bool (decide ((i)<(l.length)))) rfl)) (fun hG20=>Yj EA JZ (by decide) dNmd (X7 hr (Ai (vr (cond ((decide ((i)<(l.length)))) (v) undef) rfl) hG20)) (Ai (vr (cond ((decide ((i)<(l.length)))) (NI i) undef) rfl) hG20) (by first | omega | (simp only[gA,gB,gC,gD,gE]at hG20;omega)) fun _ h=>⟨h,rfl⟩) fun x r=>Av (gO fun _=>Af (.agg (nmdC (l.getD (i) dNmd)).toArray) rfl rfl (gT (vr (.bool (decide ((i)<(l.length)))) rfl)) (fun hG24=>X3 (Yo (r hG24) (vr x rfl)) (Le).choose_spec rfl (by rw[BB];exact J1) ⟨rfl,rfl⟩) (Av (gO fun _=>Af (St (s)) rfl rfl (gT (vr (.bool (decide ((i)<(l.length)))) rfl)) (fun hG25=>AaM T1 ⟨rfl,rfl⟩) (Av (gO fun _=>Cc (.int .i64 ((DG (l.getD (i) dNmd).name s):Int)) rfl rfl (gT (vr (.bool (decide ((i)<(l.length)))) rfl)) (fun hG26=>Ys J5 (caps:= #[]) (Ai (vr (cond ((decide ((i)<(l.length)))) (.func (.func 194) #[] #[]) undef) rfl) hG26) #[.agg (nmdC (l.getD (i) dNmd)).toArray,St (s)] (by simp only[AbI,AbL,AbP,Ach,Ab2,Acd];exact congrArg Ab3 (B2 (Ai (vr (cond ((decide ((i)<(l.length)))) (.agg (nmdC (l.getD (i) dNmd)).toArray) undef) rfl) hG26) (Ai (vr (cond ((decide ((i)<(l.length)))) (St (s)) undef) rfl) hG26))) ((Ie _ (l.getD (i) dNmd) s).mono (by rintro e w2 ⟨rfl,hx⟩;exact⟨_,rfl,rfl,hx⟩))) fun ah ab=>Av ?_)))));have r:=fun(e_:((decide ((i)<(l.length))))=true)=>(Aa4 (r e_) ab);refine gO fun _=>Af (.bool (decide (((DG (l.getD (i) dNmd).name s):Int)=((0:Nat):Int)))) rfl rfl (gT rfl) (fun hG30=>XX (Ai rfl hG30) rfl (W5 _ .i64 ((DG (l.getD (i) dNmd).name s):Int) ((0:Nat):Int)) ⟨rfl,rfl⟩) (Av (gS (Yd rfl (fun hA=>(Ai rfl hA)) rfl fun bb31 hbb32=> ?_)));clear r;refine DB rfl c (vr (.bool (bb31)) rfl) ?_;subst hbb32;have hE:=hE.trans ab;exact⟨⟨i,rfl,by omega,hlo,fun j hj=>hhi j (by omega)⟩,hE⟩
section
variable {P : AbN} {K : Abs -> Abt -> Prop} {ρ : Ah} {w : Abt} {d : Option Tmp} {ty : Abz} {pos : String} {af : Array Ack} {gd : Option (Nat × Bool)}
theorem Rj{t e:Abz}(ht:P.underlying t=some (.slice e))(a:Option Addr)(n c:Nat)(w:Abt):(Op.equal t (.slice a n c) (.slice none 0 0)).run P w = .ok a.isNone w:=by
 unfold Op.equal;rw[show Op.maxDepth=(Op.maxDepth-1)+1 from rfl];cases a <;> simp[Op.equalIn,run_underlying ht,AbC,AbE]
theorem YI{t e ty2:Abz}(ht:P.underlying t=some (.slice e)){x:AbD}{a:Option Addr}{n c:Nat}(hx:Ab ρ x = .slice a n c)(hk:K (.bool a.isNone) w):Yk P K ((execOp (Ab ρ) ⟨d, .binOp .eql t x (.const (.slice none 0 0)) ty2,ty,pos,af,gd⟩).run P w):=by
 have hy:Ab ρ (.const (.slice none 0 0)) = .slice none 0 0:=rfl;refine AaL (v:= .bool a.isNone) (w' :=w) ?_ hk;have hr:=Rj ht a n c w;unfold execOp;simp only[hx,hy];cases a <;> simp[eqGuard,Aca,hr]
end
def OF(u:Ax):Bool:=(decide (u.kind.toNat=2)&&(!Ag u.old))&&(!Ag u.new)
def OH(u:Ax):Bool:=decide (u.kind.toNat=3)&&((!Ag u.old)||(decide (u.name= [])==Ag u.new))
def OI(u:Ax):Bool:=(!Au u.name)&&(decide (u.kind.toNat≠3)||decide (u.name≠ []))
def Bt(u:Ax):Nat:=if(!DL u.kind)=true then 1 else if OF u=true then 1 else if OH u=true then 1 else if OI u=true then 10 else 0
def BF(l:List AF)(s:Bs)(p:Nat):Bool:=decide (p<l.length)&&decide ((l.getD p dNmd).name=s)
theorem Te(l:List AF)(s:Bs)(p:Nat):(decide (p<l.length)&&decide ((DG (l.getD p dNmd).name s)=((0:Nat):Int)))=BF l s p:=by
 unfold BF;rw[show decide ((DG (l.getD p dNmd).name s)=((0:Nat):Int))=decide ((l.getD p dNmd).name=s)from decide_eq_decide.2 Rh]
theorem Pt(w:Abt):(Ab1 31 0 #[]).run Abu w = .ok (.slice (some ⟨w.heap.size,0,none⟩) 0 0) (w.alloc (.cells #[] 94)):=by kernel_rfl
theorem wr30_ig94:∃z,(Tryz.prog.info? 94).map (fun i=>(i.zero,i.size,i.bytes))=some (some z,33,48)/\z.cells.size=33:=GZ (by kernel_rfl)
theorem Pu(w:Abt):(Ab1 34 0 #[]).run Abu w = .ok (.slice (some ⟨w.heap.size,0,none⟩) 0 0) (w.alloc (.cells #[] 97)):=by kernel_rfl
theorem wr30_ig97:∃z,(Tryz.prog.info? 97).map (fun i=>(i.zero,i.size,i.bytes))=some (some z,67,104)/\z.cells.size=67:=GZ (by kernel_rfl)
theorem Pv:Plain Abu 193:=fun _ _=>by kernel_rfl
theorem IX:AG Abu 77 2 2:=fun b o w=>by simp[go_sem]
theorem IY:AG Abu 77 3 34:=fun b o w=>by simp[go_sem]
theorem Tf:Tryz.prog.underlying 4=some (.bool):=by kernel_rfl
theorem Rl(w:Abt):
  Calls Abu 36 #[(.slice none 0 0)] w fun e w' =>∃v',e = .returned v' /\OG w.heap.size 94 33 nmdC w' v' []/\Ext w w' :=by
 refine gG (args:= [(.slice none 0 0)]) Tryz.func36 rfl 8 rfl rfl ?_;have hE:=AaF w;refine gS (YI EA rfl (cT rfl (AC rfl (vr (AbJ none 0 0) rfl) ?_)));exact⟨_,rfl,AaQ _ _ _ _ _,hE⟩
theorem Rm(w:Abt)(a:Addr)(c:Nat)(l:List AF)(hr:RG 33 nmdC w (.slice (some a) l.length c) l)(hl:l.length<1000000):
  Calls Abu 36 #[(.slice (some a) l.length c)] w fun e w' =>∃v',e = .returned v' /\OG w.heap.size 94 33 nmdC w' v' l/\Ext w w' :=by
 refine gG (args:= [(.slice (some a) l.length c)]) Tryz.func36 rfl 8 rfl rfl ?_;have hE:=AaF w;refine gS (YI EA rfl (cF rfl (gS (Zw (k:=33) (enc:=nmdC) Pt fun g i b j=> ?_))));have hE:=hE.trans j;refine gS (Yt _ _ w.heap.size _ 48 EA wr30_ig94.choose_spec.1 wr30_ig94.choose_spec.2 EA ([]) (l) (YO b (vr g rfl)) (X7 (hr.keep hE) (vr (.slice (some a) l.length c) rfl)) (fun _ _=>DE) (by simp only[AbO];omega) (by simp only[AbO];omega) hE.size fun h m n f=> ?_);have f:Grew i m g h:=f;have hE:=Bo hE f b.2 (Abx _);clear b;refine AC rfl (vr h rfl) ?_;exact⟨_,rfl,(show OG _ _ _ _ _ _ _ from by simpa using n),hE⟩
theorem Dd(w:Abt)(v:Abs)(l:List AF)(h:RG 33 nmdC w v l)(hl:l.length<1000000):
  Calls Abu 36 #[v] w fun e w' =>∃v',e = .returned v' /\OG w.heap.size 94 33 nmdC w' v' l/\Ext w w' :=by
 obtain⟨h0,h1,ao,cap,rfl,h2,h3,h4,h5⟩:=id h;cases ao with
 | none=>
  have hl:=h4 rfl;have:l= []:=Acm hl.1;subst this;rw[show cap=0 from hl.2];exact Rl w
 | some a=>exact Rm w a cap l h hl
theorem Rn(w:Abt):
  Calls Abu 37 #[(.slice none 0 0)] w fun e w' =>∃v',e = .returned v' /\OG w.heap.size 97 67 entC w' v' []/\Ext w w' :=by
 refine gG (args:= [(.slice none 0 0)]) Tryz.func37 rfl 8 rfl rfl ?_;have hE:=AaF w;refine gS (YI Fe rfl (cT rfl (AC rfl (vr (AbJ none 0 0) rfl) ?_)));exact⟨_,rfl,AaQ _ _ _ _ _,hE⟩
theorem Ro(w:Abt)(a:Addr)(c:Nat)(l:List A5)(hr:RG 67 entC w (.slice (some a) l.length c) l)(hl:l.length<1000000):
  Calls Abu 37 #[(.slice (some a) l.length c)] w fun e w' =>∃v',e = .returned v' /\OG w.heap.size 97 67 entC w' v' l/\Ext w w' :=by
 refine gG (args:= [(.slice (some a) l.length c)]) Tryz.func37 rfl 8 rfl rfl ?_;have hE:=AaF w;refine gS (YI Fe rfl (cF rfl (gS (Zw (k:=67) (enc:=entC) Pu fun g i b j=> ?_))));have hE:=hE.trans j;refine gS (Yt _ _ w.heap.size _ 104 Fe wr30_ig97.choose_spec.1 wr30_ig97.choose_spec.2 Fe ([]) (l) (YO b (vr g rfl)) (X7 (hr.keep hE) (vr (.slice (some a) l.length c) rfl)) (fun _ _=>FJ) (by simp only[AbO];omega) (by simp only[AbO];omega) hE.size fun h m n f=> ?_);have f:Grew i m g h:=f;have hE:=Bo hE f b.2 (Abx _);clear b;refine AC rfl (vr h rfl) ?_;exact⟨_,rfl,(show OG _ _ _ _ _ _ _ from by simpa using n),hE⟩
theorem FX(w:Abt)(v:Abs)(l:List A5)(h:RG 67 entC w v l)(hl:l.length<1000000):
  Calls Abu 37 #[v] w fun e w' =>∃v',e = .returned v' /\OG w.heap.size 97 67 entC w' v' l/\Ext w w' :=by
 obtain⟨h0,h1,ao,cap,rfl,h2,h3,h4,h5⟩:=id h;cases ao with
 | none=>
  have hl:=h4 rfl;have:l= []:=Acm hl.1;subst this;rw[show cap=0 from hl.2];exact Rn w
 | some a=>exact Ro w a cap l h hl
theorem Rp(w:Abt)(v:Abs)(l:List AF)(hr:RG 33 nmdC w v l)(hl:l.length<=1000)(hs:Dq l)(s:Bs):
  Calls Abu 154 #[v,St s] w fun e w' =>(∃p,e = .returned (.tuple #[NI p, .bool (BF l s p)])/\IH l s p)/\Ext w w' :=by
 refine gG (args:= [v,St (s)]) Tryz.func154 rfl 11 rfl rfl ?_;have hE:=AaF w;refine gS (X9 Pv rfl rfl rfl ((Ps _ v l hr hl hs s).mono ?_));rintro e b ⟨⟨p,rfl,hp⟩,a⟩;refine⟨_,rfl,?_⟩;have hr:=hr.keep a;have hE:=hE.trans a;refine gS (AaH (vs:= [NI p, .bool ((decide (p<l.length)&&decide ((DG (l.getD p dNmd).name s)=((0:Nat):Int))))]) rfl rfl (gS (AaH (vs:= [NI p, .bool ((decide (p<l.length)&&decide ((DG (l.getD p dNmd).name s)=((0:Nat):Int))))]) rfl rfl (DB rfl (vr (NI p) rfl) (vr (.bool ((decide (p<l.length)&&decide ((DG (l.getD p dNmd).name s)=((0:Nat):Int))))) rfl) ?_))));exact⟨⟨p,by rw[<-Te],hp⟩,hE⟩
theorem Pw(w:Abt)(y:Ax)(hl:y.name.length<=9223372036854775807):
  Calls Abu 39 #[.agg (updC y).toArray] w fun e w' =>e = .returned (NI (Bt y))/\Ext w w' :=by
 refine FU (args:= [.agg (updC y).toArray]) Tryz.func39 rfl 56 rfl rfl ?_;have hE:=AaF w;refine gS (AaV (vr (.agg (updC y).toArray) rfl) fun f u av o v aw=> ?_);have hE:=hE.trans v;have c:=o;clear o;have ax:f<u.heap.size:=by omega
 refine gS (AaE N2 rfl (gS (XW u5 rfl rfl (Ac c (Fb y)) (gS (X0 Re rfl ((Li _ y.kind).mono ?_))))));rintro e ay ⟨rfl,p⟩;refine⟨_,rfl,?_⟩;have hE:=hE.trans p;have c:=eb p c;refine gS (Yf rfl ?_);refine cB (!(DL y.kind)) rfl (fun i=> ?_) fun i=> ?_
 ·have h0c:(!DL y.kind)=true:=i;refine cT (vr (.bool (true)) ((show _=Ac2 ((!DL y.kind))from rfl).trans (congrArg Ac2 h0c))) (AC rfl (vr (NI 1) rfl) ?_);exact⟨by unfold Bt;rw[if_pos h0c],hE⟩
 have h0c:(!DL y.kind)=false:=i;refine gS (AaE N2 rfl (gS (XW u5 rfl rfl (Ac c (Fb y)) (gS (XX (a:=((y.kind).toNat:Nat)) (b:=(2:Nat)) rfl rfl (AH _ _ _ _) (gO fun _=>Af (PQ f 2) rfl rfl (gT rfl) (fun hG17=>AaE IX rfl ⟨rfl,rfl⟩) (Av (gO fun _=>Af (AB y.old.1) rfl rfl (gT rfl) (fun hG18=>X3 (AaS c (Eh y) (EH y) (Ai rfl hG18)) U6 rfl (Aq y.old.2) ⟨rfl,rfl⟩) (Av (gO fun _=>Cc (.bool (Ag y.old)) rfl rfl (gT rfl) (fun hG19=>X0 Ic (Ai rfl hG19) ((BZ _ y.old).mono (by rintro e w2 ⟨rfl,hx⟩;exact⟨_,rfl,rfl,hx⟩))) fun az q=>Av ?_))))))))));have hE:=hE.trans q;have c:=eb q c;refine gO fun _=>Af (.bool (!(Ag y.old))) rfl rfl (gT rfl) (fun hG23=>Yf (Ai rfl hG23) ⟨rfl,rfl⟩) (Av (gS (Yd rfl (fun hA=>(Ai rfl hA)) rfl fun bb24 hbb25=>(gO fun _=>Af (PQ f 34) rfl rfl (gT rfl) (fun hG26=>AaE IY rfl ⟨rfl,rfl⟩) (Av (gO fun _=>Af (AB y.new.1) rfl rfl (gT rfl) (fun hG27=>X3 (AaS c (CM y) (CW y) (Ai rfl hG27)) U6 rfl (Aq y.new.2) ⟨rfl,rfl⟩) (Av (gO fun _=>Cc (.bool (Ag y.new)) rfl rfl (gT rfl) (fun hG28=>X0 Ic (Ai rfl hG28) ((BZ _ y.new).mono (by rintro e w2 ⟨rfl,hx⟩;exact⟨_,rfl,rfl,hx⟩))) fun a0 r=>Av ?_))))))));have hE:=hE.trans r;have c:=eb r c;refine gO fun _=>Af (.bool (!(Ag y.new))) rfl rfl (gT rfl) (fun hG32=>Yf (Ai rfl hG32) ⟨rfl,rfl⟩) (Av (gS (Yd rfl (fun hA=>(Ai rfl hA)) rfl fun bb33 hbb34=> ?_)));refine cB (bb33) rfl (fun j=> ?_) fun j=> ?_
 ·subst hbb25 hbb34;have h1c:OF y=true:=j;refine cT (vr (.bool (true)) ((show _=Ac2 (OF y)from rfl).trans (congrArg Ac2 h1c))) (AC rfl (vr (NI 1) rfl) ?_);exact⟨by unfold Bt;rw[if_neg (by rw[h0c];decide),if_pos h1c],hE⟩
 subst hbb25 hbb34;have h1c:OF y=false:=j;refine gR ?_;refine EW [Is (PQ f 0),Is (B8 (y.kind)),Is (.bool (decide (((y.kind).toNat:Nat)=(3)))),Is (.bool (decide (((y.kind).toNat:Nat)=(3)))),Is (cond ((decide (((y.kind).toNat:Nat)=(3)))) (PQ f 2) undef),Is (cond ((decide (((y.kind).toNat:Nat)=(3)))) (AB y.old.1) undef),Is (cond ((decide (((y.kind).toNat:Nat)=(3)))) (.bool (Ag y.old)) undef),Is (cond ((decide (((y.kind).toNat:Nat)=(3)))) (.bool (!(Ag y.old))) undef),Is (cond ((decide (((y.kind).toNat:Nat)=(3)))) (.bool (!(Ag y.old))) undef),Is (cond ((decide (((y.kind).toNat:Nat)=(3)))&& !(!(Ag y.old))) (PQ f 1) undef),Is (cond ((decide (((y.kind).toNat:Nat)=(3)))&& !(!(Ag y.old))) (St (y.name)) undef),Is (cond ((decide (((y.kind).toNat:Nat)=(3)))&& !(!(Ag y.old))) (.bool (decide ((y.name:AgP)=(([]:AgP):AgP)))) undef),Is (cond ((decide (((y.kind).toNat:Nat)=(3)))&& !(!(Ag y.old))) (PQ f 34) undef),Is (cond ((decide (((y.kind).toNat:Nat)=(3)))&& !(!(Ag y.old))) (AB y.new.1) undef),Is (cond ((decide (((y.kind).toNat:Nat)=(3)))&& !(!(Ag y.old))) (.bool (Ag y.new)) undef),Is (cond ((decide (((y.kind).toNat:Nat)=(3)))&& !(!(Ag y.old))) (.bool ((decide ((y.name:AgP)=(([]:AgP):AgP)))==(Ag y.new))) undef),Is (cond ((decide (((y.kind).toNat:Nat)=(3)))) (.bool ((!(Ag y.old))||((decide ((y.name:AgP)=(([]:AgP):AgP)))==(Ag y.new)))) undef),Is (.bool ((decide (((y.kind).toNat:Nat)=(3)))&&((!(Ag y.old))||((decide ((y.name:AgP)=(([]:AgP):AgP)))==(Ag y.new))))),Is (.bool ((decide (((y.kind).toNat:Nat)=(3)))&&((!(Ag y.old))||((decide ((y.name:AgP)=(([]:AgP):AgP)))==(Ag y.new)))))] (by kernel_rfl) [23,24,25,26,27,28,29,30,31,32,33,34,35,36,37,38,39,40,3] (by kernel_rfl) (by kernel_rfl) (XK (S3 trivial)) ?z ?hQ1003
 case z=>
  refine⟨?_,?_,?_,?_,?_,?_,?_,?_,?_,?_,?_,?_,?_,?_,?_,?_,?_,?_,?_,trivial⟩
  ·refine AR rfl fun σ w1 hC h=> ?_;have g:σ 1=PQ f 0:=(AL (h 1 (by decide))).trans rfl;exact AaE N2 g ⟨AaF _,rfl⟩
  ·refine AR rfl fun σ w1 hC h=> ?_;have aa:=AL (h 23 (by decide));exact XW u5 rfl aa (Ac (eb hC c) (Fb y)) ⟨AaF _,rfl⟩
  ·refine AR rfl fun σ w1 hC h=> ?_;have ab:=AL (h 24 (by decide));exact XX (a:=((y.kind).toNat:Nat)) (b:=(3:Nat)) ab rfl (AH _ _ _ _) ⟨AaF _,rfl⟩
  ·refine AR rfl fun σ w1 hC h=> ?_;have ac:=AL (h 25 (by decide));exact AaM ac ⟨AaF _,rfl⟩
  ·refine A0 3 true 26 (G:=(decide (((y.kind).toNat:Nat)=(3)))) rfl rfl (fun x _ (h:x = .bool (decide (((y.kind).toNat:Nat)=(3))))=>gT h) (fun hu_ _=>Bq hu_) fun hG σ w1 hC h=> ?_;have g:σ 1=PQ f 0:=(AL (h 1 (by decide))).trans rfl;exact AaE IX g ⟨AaF _,Bp hG⟩
  ·refine A0 3 true 26 (G:=(decide (((y.kind).toNat:Nat)=(3)))) rfl rfl (fun x _ (h:x = .bool (decide (((y.kind).toNat:Nat)=(3))))=>gT h) (fun hu_ _=>Bq hu_) fun hG σ w1 hC h=> ?_;have ad:=AL (h 27 (by decide));exact X3 (AaS (eb hC c) (Eh y) (EH y) (Ai ad hG)) U6 rfl (Aq y.old.2) ⟨AaF _,Bp hG⟩
  ·refine A0 3 true 26 (G:=(decide (((y.kind).toNat:Nat)=(3)))) rfl rfl (fun x _ (h:x = .bool (decide (((y.kind).toNat:Nat)=(3))))=>gT h) (fun hu_ _=>Bq hu_) fun hG σ w1 hC h=> ?_;have ae:=AL (h 28 (by decide));refine X0 Ic (Ai ae hG) ((BZ _ y.old).mono ?_);rintro e w2 ⟨rfl,hx⟩;exact⟨_,rfl,hx,Bp hG⟩
  ·refine A0 3 true 26 (G:=(decide (((y.kind).toNat:Nat)=(3)))) rfl rfl (fun x _ (h:x = .bool (decide (((y.kind).toNat:Nat)=(3))))=>gT h) (fun hu_ _=>Bq hu_) fun hG σ w1 hC h=> ?_;have af:=AL (h 29 (by decide));exact Yf (Ai af hG) ⟨AaF _,Bp hG⟩
  ·refine A0 3 true 26 (G:=(decide (((y.kind).toNat:Nat)=(3)))) rfl rfl (fun x _ (h:x = .bool (decide (((y.kind).toNat:Nat)=(3))))=>gT h) (fun hu_ _=>Bq hu_) fun hG σ w1 hC h=> ?_;have ag:=AL (h 30 (by decide));exact AaM (Ai ag hG) ⟨AaF _,Bp hG⟩
  ·refine A0 8 false 31 (G:=(decide (((y.kind).toNat:Nat)=(3)))&& !(!(Ag y.old))) rfl rfl (fun x _ (h:x=cond ((decide (((y.kind).toNat:Nat)=(3)))) (.bool (!(Ag y.old))) undef)=>ET h) (fun hu_ _=>Bq hu_) fun hG σ w1 hC h=> ?_;have g:σ 1=PQ f 0:=(AL (h 1 (by decide))).trans rfl;exact AaE N4 g ⟨AaF _,Bp hG⟩
  ·refine A0 8 false 31 (G:=(decide (((y.kind).toNat:Nat)=(3)))&& !(!(Ag y.old))) rfl rfl (fun x _ (h:x=cond ((decide (((y.kind).toNat:Nat)=(3)))) (.bool (!(Ag y.old))) undef)=>ET h) (fun hu_ _=>Bq hu_) fun hG σ w1 hC h=> ?_;have ah:=AL (h 32 (by decide));exact XW Et rfl (Ai ah hG) (Ac (eb hC c) (Eg y)) ⟨AaF _,Bp hG⟩
  ·refine A0 8 false 31 (G:=(decide (((y.kind).toNat:Nat)=(3)))&& !(!(Ag y.old))) rfl rfl (fun x _ (h:x=cond ((decide (((y.kind).toNat:Nat)=(3)))) (.bool (!(Ag y.old))) undef)=>ET h) (fun hu_ _=>Bq hu_) fun hG σ w1 hC h=> ?_;have ai:=AL (h 33 (by decide));exact YR (l:=y.name) (m:=([]:AgP)) (.inl rfl) (Ai ai hG) (vr (St (([]:AgP))) rfl) (decide ((y.name:AgP)=(([]:AgP):AgP))) rfl ⟨AaF _,Bp hG⟩
  ·refine A0 8 false 31 (G:=(decide (((y.kind).toNat:Nat)=(3)))&& !(!(Ag y.old))) rfl rfl (fun x _ (h:x=cond ((decide (((y.kind).toNat:Nat)=(3)))) (.bool (!(Ag y.old))) undef)=>ET h) (fun hu_ _=>Bq hu_) fun hG σ w1 hC h=> ?_;have g:σ 1=PQ f 0:=(AL (h 1 (by decide))).trans rfl;exact AaE IY g ⟨AaF _,Bp hG⟩
  ·refine A0 8 false 31 (G:=(decide (((y.kind).toNat:Nat)=(3)))&& !(!(Ag y.old))) rfl rfl (fun x _ (h:x=cond ((decide (((y.kind).toNat:Nat)=(3)))) (.bool (!(Ag y.old))) undef)=>ET h) (fun hu_ _=>Bq hu_) fun hG σ w1 hC h=> ?_;have aj:=AL (h 35 (by decide));exact X3 (AaS (eb hC c) (CM y) (CW y) (Ai aj hG)) U6 rfl (Aq y.new.2) ⟨AaF _,Bp hG⟩
  ·refine A0 8 false 31 (G:=(decide (((y.kind).toNat:Nat)=(3)))&& !(!(Ag y.old))) rfl rfl (fun x _ (h:x=cond ((decide (((y.kind).toNat:Nat)=(3)))) (.bool (!(Ag y.old))) undef)=>ET h) (fun hu_ _=>Bq hu_) fun hG σ w1 hC h=> ?_;have ak:=AL (h 36 (by decide));refine X0 Ic (Ai ak hG) ((BZ _ y.new).mono ?_);rintro e w2 ⟨rfl,hx⟩;exact⟨_,rfl,hx,Bp hG⟩
  ·refine A0 8 false 31 (G:=(decide (((y.kind).toNat:Nat)=(3)))&& !(!(Ag y.old))) rfl rfl (fun x _ (h:x=cond ((decide (((y.kind).toNat:Nat)=(3)))) (.bool (!(Ag y.old))) undef)=>ET h) (fun hu_ _=>Bq hu_) fun hG σ w1 hC h=> ?_;have al:=AL (h 34 (by decide));have am:=AL (h 37 (by decide));exact Aad (a:=decide ((y.name:AgP)=(([]:AgP):AgP))) (b:=Ag y.new) Tf (Ai al hG) (Ai am hG) ⟨AaF _,Bp hG⟩
  ·refine A0 3 true 26 (G:=(decide (((y.kind).toNat:Nat)=(3)))) rfl rfl (fun x _ (h:x = .bool (decide (((y.kind).toNat:Nat)=(3))))=>gT h) (fun hu_ _=>Bq hu_) fun hG σ w1 hC h=> ?_;have an:=AL (h 31 (by decide));have ao:=AL (h 38 (by decide));exact YE (Ai an hG) (vr (.bool (true)) rfl) (fun hA=>(Ai ao (FG hG (BO hA)))) ⟨AaF _,Bp hG⟩
  ·refine AR rfl fun σ w1 hC h=> ?_;have ap:=AL (h 26 (by decide));have aq:=AL (h 39 (by decide));exact Yz ap (fun hA=>(Ai aq hA)) (vr (.bool (false)) rfl) ⟨AaF _,rfl⟩
  ·refine AR rfl fun σ w1 hC h=> ?_;have ar:=AL (h 40 (by decide));exact AaY ar ⟨AaF _,rfl⟩
 intro au a1 s he hf;obtain⟨-,-,-,-,-,-,-,-,-,-,-,-,-,-,-,-,-,-,k3,-⟩:=hf;obtain⟨T0,T1,T2,-⟩:=he.hold [(0, .agg (updC y).toArray),(1,PQ f 0),(2,NI 0)] ⟨rfl,rfl,rfl,trivial⟩ rfl;clear he;have hE:=hE.trans s;have c:=eb s c;have T3:au 3 = .bool ((decide (((y.kind).toNat:Nat)=(3)))&&((!(Ag y.old))||((decide ((y.name:AgP)=(([]:AgP):AgP)))==(Ag y.new)))):=k3;clear k3;refine XN ?_;refine cB ((decide (((y.kind).toNat:Nat)=(3)))&&((!(Ag y.old))||((decide ((y.name:AgP)=(([]:AgP):AgP)))==(Ag y.new)))) T3 (fun k=> ?_) fun k=> ?_
 ·have h2c:OH y=true:=k;refine AC rfl (vr (NI 1) rfl) ?_;exact⟨by unfold Bt;rw[if_neg (by rw[h0c];decide),if_neg (by rw[h1c];decide),if_pos h2c],hE⟩
 have h2c:OH y=false:=k;refine gS (AaE N4 T1 (gS (XW Et rfl rfl (Ac c (Eg y)) (gS (X0 Lf rfl ((Jo _ y.name hl).mono ?_))))));rintro e a4 ⟨rfl,t⟩;refine⟨_,rfl,?_⟩;have hE:=hE.trans t;have c:=eb t c;refine gS (Yf rfl (gO fun _=>Af (PQ f 0) rfl rfl (gT rfl) (fun hG43=>AaE N2 T1 ⟨rfl,rfl⟩) (Av (gO fun _=>Af (B8 (y.kind)) rfl rfl (gT rfl) (fun hG44=>XW u5 rfl (Ai rfl hG44) (Ac c (Fb y)) ⟨rfl,rfl⟩) (Av (gO fun _=>Af (.bool (decide (((y.kind).toNat:Nat)≠(3)))) rfl rfl (gT rfl) (fun hG45=>XX (a:=(((y.kind).toNat:Nat):Int)) (b:=((3:Nat):Int)) (Ai rfl hG45) rfl (Bb _ .u8 ((y.kind).toNat) (3)) ⟨rfl,rfl⟩) (Av (gO fun _=>Af (.bool (decide (((y.kind).toNat:Nat)≠(3)))) rfl rfl (gT rfl) (fun hG46=>AaM (Ai rfl hG46) ⟨rfl,rfl⟩) (Av (gO fun _=>Af (PQ f 1) rfl rfl (ET rfl) (fun hG47=>AaE N4 T1 ⟨rfl,rfl⟩) (Av (gO fun _=>Af (St (y.name)) rfl rfl (ET rfl) (fun hG48=>XW Et rfl (Ai rfl hG48) (Ac c (Eg y)) ⟨rfl,rfl⟩) (Av (gO fun _=>Af (.bool (decide ((y.name:AgP)≠(([]:AgP):AgP)))) rfl rfl (ET rfl) (fun hG49=>YR (l:=y.name) (m:=([]:AgP)) (.inr rfl) (Ai rfl hG49) rfl (decide ((y.name:AgP)≠(([]:AgP):AgP))) rfl ⟨rfl,rfl⟩) (Av (gO fun _=>DP ((decide (((y.kind).toNat:Nat)≠(3)))||(decide ((y.name:AgP)≠(([]:AgP):AgP)))) rfl rfl (gT rfl) (fun hG50=>YE (Ai rfl hG50) rfl (fun hA=>(Ai rfl (FG hG50 (BO hA)))) ⟨rfl,rfl⟩) fun bb51 hbb52=>Av (gS (Yd rfl (fun hA=>(Ai rfl hA)) rfl fun bb53 hbb54=> ?_))))))))))))))))));refine cB (bb53) rfl (fun n=> ?_) fun n=> ?_
 ·subst hbb52 hbb54;have h3c:OI y=true:=n;refine AC rfl (vr (NI 10) rfl) ?_;exact⟨by unfold Bt;rw[if_neg (by rw[h0c];decide),if_neg (by rw[h1c];decide),if_neg (by rw[h2c];decide),if_pos h3c],hE⟩
 subst hbb52 hbb54;have h3c:OI y=false:=n;refine AC rfl (vr (NI 0) rfl) ?_;exact⟨by unfold Bt;rw[if_neg (by rw[h0c];decide),if_neg (by rw[h1c];decide),if_neg (by rw[h2c];decide),if_neg (by rw[h3c];decide)],hE⟩
theorem OJ:∃i z,Tryz.prog.info? 94=some i/\i.size=33/\i.bytes=48/\i.zero=some z/\z.cells.size=33/\∀u∈z.cells.toList,u.oneCell' =true:=Td (by kernel_rfl)
section
variable {A X D R : List Abs} {i j : Nat}
theorem Vu(hA:A.length=i)(hX:X.length=33)(hD:D.length=j):((A++X++D++R).drop (i+33)).take j=D:=by
 rw[AbV,AeT (by rw[Aby,hA,hX]),AcH hD]
theorem OL(hA:A.length=i)(hD:D.length=j):((A++D++R).drop i).take j=D:=by rw[AbV,AeT hA,AcH hD]
theorem Th{C:List Abs}{m:Nat}(hm:i<=m)(hC:C.take i=A):C.take m=A++(C.take m).drop i:=by rw[<-hC,show C.take i=(C.take m).take i by rw[List.take_take,Ad6 hm],AcS]
theorem Ti(hA:A.length=i)(hX:X.length=33){Y:List Abs}:(A++X++R).take i++Y++(A++X++R).drop (i+1*33)=A++Y++R:=by rw[AeT (by rw[Aby];omega),AbV A X R,AcH hA]
theorem MM{w:Abt}{a b:Nat}{v x:Abs}{lo' n' c' lo n c:Nat}(hv:SB a 33 lo' n' c' v)(hx:SB b 33 lo n c x)(hne:a≠b){A B:List Abs}{tA tB:Abz}(hA:w.heap[a]? =some (.cells A.toArray tA (0,0)))(hB:w.heap[b]? =some (.cells B.toArray tB (0,0)))(h0:B≠ []):
  (callFunc 195 #[v,x]).run Abu w = .ok (.value (.bool false)) w:=by
 rw[run_callFunc_extern (e:=Extern.SlicesOverlaps.overlaps #[31,31] #[4]) Tryz.func195 (by kernel_rfl) (by kernel_rfl) (by kernel_rfl) (by kernel_rfl),KN (e:=94) rfl (fun _=>by kernel_rfl) hv hx hne hA hB h0];rfl
theorem Rq(hA:A.length=i):(A++X++D++R).take i=A:=by rw[AbV,AbV,AcH hA]
theorem Ll(h:(A++D).length=i):(A++D++R).take i=A++D:=AcH h
end
theorem Px(w:Abt)(v:Abs)(g c i j:Nat)(A X D R:List Abs)(hA:A.length=i*33)(hX:X.length=33)(hD:D.length=j*33)(hv:SB g 33 0 (i+1+j) c v)(hCb:w.heap[g]? =some (.cells (A++X++D++R).toArray 94 (0,0)))(hL:(A++X++D++R).length=c*33)(hc:i+1+j<=c)(hm:c<=maxLen)(h1:∀u∈D,u.oneCell' =true):
  Calls Abu 155 #[v,NI i,NI (i+1)] w fun e w' =>∃R',e = .returned (.slice (some ⟨g,0,none⟩) (i+j) c)/\w'.heap[g]? =some (.cells (A++D++R').toArray 94 (0,0))/\(A++D++R').length=c*33/\w.grownBy w' (some g):=by
 obtain⟨ri,rz,ri1,ri2,ri3,ri4,ri5,ri6⟩:=OJ;have hgr:w.grownBy w (some g):=⟨rfl,rfl,rfl,Abx _,fun _ _ _=>rfl⟩;have hgl:=(bl hCb);unfold maxLen at hm;refine gG (args:= [v,NI i,NI (i+1)]) Tryz.func155 rfl 33 rfl rfl ?_;have hE:=AaF w;refine gS (YX EA (Yi hv rfl) (gS (ZN (l:=i) (r:=i+1) (m:=i+1+j) EA JZ (Yi hv rfl) rfl rfl rfl (by omega) (by omega) (by omega) fun y n=> ?_)));have n:SB g 33 (i) (i+1-(i)) (i+1+j-(i)) y:=(Abe n (by omega) (by omega) (by omega));refine gS (XX (a:=(i:Nat)) (b:=(i+1:Nat)) rfl rfl (AH _ _ _ _) (kF (by omega) (cF rfl (gS (YX EA (Yi hv rfl) (gM0 [0,1,2,3,4,5,6,7] [6,7] [] fun z o=> ?_))))));have hgr:w.grownBy z (some g):=Aa hgr o.grown (fun _ e=>by cases e);refine yS (Yq EA JZ (a:=none) (b:=some _) (Yi hv rfl) (0) (i) (.inl ⟨rfl,rfl⟩) (.inr ⟨_,congrArg some rfl⟩) (by omega) (by omega) fun p f=> ?_);have f:SB g 33 (0) (i) (c) p:=(Abe f (by omega) (by omega) (by omega));refine yS (Yq EA JZ (a:=some _) (b:=none) (Yi hv rfl) (i+1) (i+1+j) (.inr ⟨_,congrArg some rfl⟩) (.inl ⟨rfl,rfl⟩) (by omega) (by omega) fun q h=> ?_);have h:SB g 33 (i+1) (j) (c-(i+1)) q:=(Abe h (by omega) (by omega) (by omega));have hCb:=eb o hCb;refine yC (ZO EA ri1 ri2 (Yi f (vr p rfl)) (by omega) hCb (SB.src (Yi h (vr q rfl)) (j*33) (if hj:j=0 then .inr (by omega)else .inl (by omega)) hCb (by rw[show(i+1)*33=i*33+33 by omega];exact Vu hA hX hD)) (hD) (h1) (by omega) (by rw[hL];omega) fun s aa ab af=> ?_);have hgr:w.grownBy s (some g):=Aa hgr ab (fun _ e=> .inl e);clear hE;clear hCb;refine Aea (⟨_,rfl⟩:∃T,T=(A++X++D++R).drop (i*33+j*33)) fun T hT=> ?_;have hLT:(A++D++T).length=c*33:=by rw[hT];simp only[Aby,AbS]at hL ⊢;omega
 have hCb:s.heap[g]? =some (.cells (A++D++T).toArray 94 (0,0)):=Ay aa (by rw[hT,Rq hA]);have ag:=bl hCb;have t:SB g 33 0 (i+j) (c) (AbJ (some ⟨g,0,none⟩) (i+(j)) (c)):=(YW _ _ _ _).eq rfl (by omega) rfl;refine yC (AaY rfl (gS (YX EA (Yi t rfl) (gS (Yq EA JZ (a:=some _) (b:=some _) (Yi t rfl) (i+j) (i+1+j) (.inr ⟨_,congrArg some rfl⟩) (.inr ⟨_,congrArg some rfl⟩) (by omega) (by omega) fun ac k=> ?_)))));have k:SB g 33 (i+j) (1) (c-(i+j)) ac:=(Abe k (by omega) (by omega) (by omega));refine gS (Z4 EA ri1 ri4 ri5 (Yi k rfl) (by omega) (by omega) hCb (Ma ri6 _) (by rw[hLT];omega) fun x Z29 hZ30 ad ae ah=> ?_);have hgr:w.grownBy x (some g):=Aa hgr ae (fun _ e=> .inl e);clear hCb;refine Aea (⟨_,rfl⟩:∃U,U=Z29++(A++D++T).drop ((i+j)*33+1*33)) fun U hU=> ?_;have hLU:(A++D++U).length=c*33:=by rw[hU];simp only[Aby,AbS]at hLT ⊢;omega
 have hCb:x.heap[g]? =some (.cells (A++D++U).toArray 94 (0,0)):=Ay ad (by rw[hU,Ll (by rw[Aby];omega),AbV (A++D)]);have ai:=bl hCb;refine AC rfl (vr (AbJ (some ⟨g,0,none⟩) (i+(j)) (c)) rfl) ?_;exact⟨_,rfl,hCb,hLU,hgr⟩
theorem Py(w:Abt)(v r:Abs)(g b c i j:Nat)(TX:Abz)(A X D R:List Abs)(hA:A.length=i*33)(hXl:X.length=33)(hD:D.length=j*33)(hv:SB g 33 0 (i+j) c v)(hCb:w.heap[g]? =some (.cells (A++D++R).toArray 94 (0,0)))(hL:(A++D++R).length=c*33)(hc:i+j<=c)(hm:c<=maxLen)(hj:0<j)(h1:∀u∈D,u.oneCell' =true)(hX1:∀u∈X,u.oneCell' =true) 
  (hv2:SB b 33 0 1 1 r) (hX:w.heap[b]? =some (.cells X.toArray TX (0,0))) (hne:b≠g) (hs:i+j<=1000):
  Calls Abu 156 #[v,NI i,r] w fun e w' =>∃g' c' R',e = .returned (.slice (some ⟨g',0,none⟩) (i+1+j) c')/\w'.heap[g']? =some (.cells (A++X++D++R').toArray 94 (0,0))/\(A++X++D++R').length=c' *33/\i+1+j<=c' /\c' <=2^63-1/\w.grownBy w' (some g)/\(g' =g\/w.heap.size<=g'):=by
 obtain⟨ri,rz,ri1,ri2,ri3,ri4,ri5,ri6⟩:=OJ;have hgr:w.grownBy w (some g):=⟨rfl,rfl,rfl,Abx _,fun _ _ _=>rfl⟩;have hgl:=(bl hCb);have hbl:=(bl hX);unfold maxLen at hm;refine gG (args:= [v,NI i,r]) Tryz.func156 rfl 95 rfl rfl ?_;have hE:=AaF w;refine gS (Yq EA JZ (a:=some _) (b:=none) (Yi hv rfl) (i) (i+j) (.inr ⟨_,congrArg some rfl⟩) (.inl ⟨rfl,rfl⟩) (by omega) (by omega) fun v3 ah=> ?_);have ah:SB g 33 (i) (i+j-(i)) (c-(i)) v3:=(Abe ah (by omega) (by omega) (by omega));refine gS (YX EA (Yi hv2 rfl) (gS (XX (a:=(1:Nat)) (b:=(0:Nat)) rfl rfl (AH _ _ _ _) (kF (by omega) (cF rfl (gS (YX EA (Yi hv rfl) ?_)))))));by_cases hroom:i+j+1<=c
 ·refine gS (XX (a:=(i:Nat)) (b:=(i+j:Nat)) rfl rfl (AH _ _ _ _) (kF (by omega) (cF rfl (gS (X6 (xv:=NI (i+j)) (yv:=NI 1) rfl rfl rfl (AI _ _ _ (by omega)) (gS (ZA EA (Yi hv rfl) (gS (XX (a:=((i+j)+(1):Nat)) (b:=(c:Nat)) rfl rfl (DK _ _ _ _) (kF (by omega) (cF rfl (gS (X6 (xv:=NI (i+j)) (yv:=NI 1) rfl rfl rfl (AI _ _ _ (by omega)) (gS (Yq EA JZ (a:=none) (b:=some _) (Yi hv rfl) (0) ((i+j)+(1)) (.inl ⟨rfl,rfl⟩) (.inr ⟨_,congrArg some rfl⟩) (by omega) (by omega) fun ai n=> ?_)))))))))))))));have n:SB g 33 (0) (i+1+j) (c) ai:=(Abe n (by omega) (by omega) (by omega));refine gS (X6 (xv:=NI i) (yv:=NI 1) rfl rfl rfl (AI _ _ _ (by omega)) (gS (Yq EA JZ (a:=some _) (b:=none) (Yi n rfl) ((i)+(1)) (i+1+j) (.inr ⟨_,congrArg some rfl⟩) (.inl ⟨rfl,rfl⟩) (by omega) (by omega) fun au s=> ?_)));have s:SB g 33 (i+1) (j) (c-(i+1)) au:=(Abe s (by omega) (by omega) (by omega));refine gS (Z3 rfl rfl (MM (Yi hv2 rfl) (Yi s rfl) hne hX hCb (by intro e;rw[e]at hL;simp at hL;omega)) (gS (Yf rfl (cT rfl (gM0 [0,1,2,3,4,5,6,7,8] [8] [] fun av t=> ?_)))));have hgr:w.grownBy av (some g):=Aa hgr t.grown (fun _ e=>by cases e);refine ys (X6 (xv:=NI i) (yv:=NI 1) rfl rfl rfl (AI _ _ _ (by omega)) zz) (yS (Yq EA JZ (a:=some _) (b:=none) (Yi n rfl) ((i)+(1)) (i+1+j) (.inr ⟨_,congrArg some rfl⟩) (.inl ⟨rfl,rfl⟩) (by omega) (by omega) fun aw x=> ?_));have x:SB g 33 (i+1) (j) (c-(i+1)) aw:=(Abe x (by omega) (by omega) (by omega));refine yS (Yq EA JZ (a:=some _) (b:=none) (Yi n rfl) (i) (i+1+j) (.inr ⟨_,congrArg some rfl⟩) (.inl ⟨rfl,rfl⟩) (by omega) (by omega) fun ax y=> ?_);have y:SB g 33 (i) (j+1) (c-i) ax:=(Abe y (by omega) (by omega) (by omega));have hCb:=eb t hCb;refine yC (YZ EA JZ (Yi x rfl) (by omega) hCb (j) (SB.src (Yi y rfl) (j*33) (.inl (by omega)) hCb (OL hA hD)) (by simp only[AfZ];split <;> omega) (hD) (h1) (by rw[hL];omega) fun aj ay ak a8=> ?_);have hgr:w.grownBy aj (some g):=Aa hgr ak (fun _ e=> .inl e);clear hE;clear hCb;refine Aea (⟨_,rfl⟩:∃T,T=(A++D++R).drop ((i+1)*33+j*33)) fun T hT=>(Aea (⟨_,rfl⟩:∃Y0,Y0=((A++D++R).take ((i+1)*33)).drop (i*33)) fun Y0 hY0=> ?_);have hY0l:Y0.length=33:=by rw[hY0,AbS,AbR,hL];omega
  have hLT:(A++Y0++(D++T)).length=c*33:=by rw[hT];simp only[Aby,AbS]at hL ⊢;omega
  have hCb:aj.heap[g]? =some (.cells (A++Y0++(D++T)).toArray 94 (0,0)):=Ay ay (by rw[hT,hY0,<-Th (C:=A++D++R) (m:=(i+1)*33) (by omega) (by rw[AbV,AcH hA]),AbV]);have a9:=bl hCb;refine gS (Yq EA JZ (a:=some _) (b:=none) (Yi n rfl) (i) (i+1+j) (.inr ⟨_,congrArg some rfl⟩) (.inl ⟨rfl,rfl⟩) (by omega) (by omega) fun az z=> ?_);have z:SB g 33 (i) (j+1) (c-i) az:=(Abe z (by omega) (by omega) (by omega));have hX:=eb t hX;have hX:=kb ak hX (by omega);refine gS (YZ EA JZ (Yi z rfl) (by omega) hCb (1) (SB.src (Yi hv2 rfl) 33 (.inl (by omega)) hX (by rw[Ad1,AdX,Ab8 (by omega)])) (by simp only[AfZ];split <;> omega) (by omega) (hX1) (by rw[hLT];omega) fun al a0 a1 ba=> ?_);have hgr:w.grownBy al (some g):=Aa hgr a1 (fun _ e=> .inl e);clear hCb;have hLF:(A++X++D++T).length=c*33:=by simp only[Aby]at hLT ⊢;omega
  have hCb:al.heap[g]? =some (.cells (A++X++D++T).toArray 94 (0,0)):=Ay a0 (by rw[Ti hA hY0l,AbV (A++X)]);have bb:=bl hCb;refine AC rfl (vr ai rfl) ?_;obtain⟨o,rfl,ho⟩:=n;obtain rfl:o=0:=by rw[ho (by omega),Ad1]
  exact⟨_,_,_,rfl,hCb,hLF,(by omega),(by omega),hgr, .inl rfl⟩
 refine gS (XX (a:=(i:Nat)) (b:=(i+j:Nat)) rfl rfl (AH _ _ _ _) (kF (by omega) (cF rfl (gS (X6 (xv:=NI (i+j)) (yv:=NI 1) rfl rfl rfl (AI _ _ _ (by omega)) (gS (ZA EA (Yi hv rfl) (gS (XX (a:=((i+j)+(1):Nat)) (b:=(c:Nat)) rfl rfl (DK _ _ _ _) (kT (by omega) (cT rfl (gS (Yq EA JZ (a:=none) (b:=some _) (Yi hv rfl) (0) (i) (.inl ⟨rfl,rfl⟩) (.inr ⟨_,congrArg some rfl⟩) (by omega) (by omega) fun am aa=> ?_)))))))))))));have aa:SB g 33 (0) (i) (c) am:=(Abe aa (by omega) (by omega) (by omega));refine gS (X6 (xv:=NI (i+j)) (yv:=NI 1) rfl rfl rfl (AI _ _ _ (by omega)) (gS (X6 (xv:=NI ((i+j)+(1))) (yv:=NI i) rfl rfl rfl (EX _ _ _ (by omega) (by omega)) (gS (Zj (m:=((i+j)+(1))-(i)) EA ML ri1 ri4 ri2 ri5 (by decide) (Yi aa (vr am rfl)) (by omega) hCb (vr (NI (((i+j)+(1))-(i))) rfl) (by omega) (by omega) (by rw[hL];omega) (by rw[ri3];omega) (by unfold maxLen;omega) fun h ab l Z54 ac hm56 hm57 hZ58 f p bc=> ?_)))));have hgr:w.grownBy ab (some g):=Aa hgr p.grown (fun _ e=>by cases e);have f:ab.heap[h]? =some (.cells (A++Z54).toArray 94 (0,0)):=Ay f (by rw[AbV,AcH hA]);have bd:h<ab.heap.size:=by omega
 have an:SB h 33 0 (i+1+j) (l) (AbJ (some ⟨h,0,none⟩) (i+(((i+j)+(1))-(i))) l):=(YW _ _ _ _).eq rfl (by omega) rfl;unfold maxLen at hm56;refine gS (Yq EA JZ (a:=some _) (b:=none) (Yi an rfl) (i) (i+1+j) (.inr ⟨_,congrArg some rfl⟩) (.inl ⟨rfl,rfl⟩) (by omega) (by omega) fun a2 ad=> ?_);have ad:SB h 33 (i) (j+1) (l-i) a2:=(Abe ad (by omega) (by omega) (by omega));have be:=AN (bl hX) ac;have hX:=eb p hX;refine gS (YZ EA JZ (Yi ad rfl) (by omega) f (1) (SB.src (Yi hv2 rfl) 33 (.inl (by omega)) hX (by rw[Ad1,AdX,Ab8 (by omega)])) (by simp only[AfZ];split <;> omega) (by omega) (hX1) (by rw[Aby,hA,hZ58];omega) fun ao a3 ae bf=> ?_);have hgr:w.grownBy ao (some g):=Aa hgr ae (fun _ e=> .inr (by cases e;omega));clear f;refine Aea (⟨_,rfl⟩:∃T,T=(A++Z54).drop (i*33+1*33)) fun T hT=> ?_;have hLT:(A++X++T).length=l*33:=by rw[hT];simp only[Aby,AbS];omega
 have f:ao.heap[h]? =some (.cells (A++X++T).toArray 94 (0,0)):=Ay a3 (by rw[hT,AcH hA]);have bg:=bl f;refine gM0 [0,1,2,3,4,5,6,7,8] [8] [] fun a4 q=> ?_;have hgr:w.grownBy a4 (some g):=Aa hgr q.grown (fun _ e=>by cases e);refine ys (X6 (xv:=NI i) (yv:=NI 1) rfl rfl rfl (AI _ _ _ (by omega)) zz) (yS (Yq EA JZ (a:=some _) (b:=none) (Yi an rfl) ((i)+(1)) (i+1+j) (.inr ⟨_,congrArg some rfl⟩) (.inl ⟨rfl,rfl⟩) (by omega) (by omega) fun a5 af=> ?_));have af:SB h 33 (i+1) (j) (l-(i+1)) a5:=(Abe af (by omega) (by omega) (by omega));refine yS (Yq EA JZ (a:=some _) (b:=none) (Yi hv rfl) (i) (i+j) (.inr ⟨_,congrArg some rfl⟩) (.inl ⟨rfl,rfl⟩) (by omega) (by omega) fun a6 ag=> ?_);have ag:SB g 33 (i) (j) (c-i) a6:=(Abe ag (by omega) (by omega) (by omega));have bh:=AN (bl hCb) ac;have hCb:=eb p hCb;have hCb:=kb ae hCb (by omega);have hCb:=eb q hCb;have f:=eb q f;refine yC (YZ EA JZ (Yi af rfl) (by omega) f (j) (SB.src (Yi ag rfl) (j*33) (.inl (by omega)) hCb (OL hA hD)) (by simp only[AfZ];split <;> omega) (hD) (h1) (by rw[hLT];omega) fun ap a7 aq bi=> ?_);have hgr:w.grownBy ap (some g):=Aa hgr aq (fun _ e=> .inr (by cases e;omega));clear f;refine Aea (⟨_,rfl⟩:∃U,U=(A++X++T).drop ((i+1)*33+j*33)) fun U hU=> ?_;have hLU:(A++X++D++U).length=l*33:=by rw[hU];simp only[Aby,AbS]at hLT ⊢;omega
 have f:ap.heap[h]? =some (.cells (A++X++D++U).toArray 94 (0,0)):=Ay a7 (by rw[hU,Ll (by rw[Aby];omega)]);have bj:=bl f;refine AC rfl (vr (AbJ (some ⟨h,0,none⟩) (i+(((i+j)+(1))-(i))) l) rfl) ?_;have hE:=hE.trans p;have hE:=Ad hE ae (Abw (Abx _) (by omega));have hE:=hE.trans q;have hE:=Ad hE aq (Abw (Abx _) (by omega));exact⟨_,_,_,(congrArg (fun k:Nat=>AcW (AbJ (some ⟨h,0,none⟩) k l)) (show i+(i+j+1-i)=i+1+j by omega)),f,hLU,(by omega),(by omega),hgr, .inr (Afv ac)⟩
theorem Pz(w0 w:Abt)(v c:Abs)(l:List AF)(x:AF)(f:Ext w0 w)(ho:OG w0.heap.size 94 33 nmdC w v l)(g:RG 33 nmdC w c [x])(hl:l.length<=1000):
  Calls Abu 156 #[v,NI l.length,c] w fun e w' =>∃v',e = .returned v' /\OG w0.heap.size 94 33 nmdC w' v' (l++ [x])/\Ext w0 w' :=by
 refine gG (args:= [v,NI l.length,c]) Tryz.func156 rfl 95 rfl rfl ?_;have hE:=AaF w;refine gS (Za EA JZ rfl (XY ho) rfl (Abx _) fun n j ha5=>(gS (X8 EA (X7 g rfl) (gS (XX (a:=(([x]).length:Nat)) (b:=(0:Nat)) rfl rfl (AH _ _ _ _) (kF (by simp) (cF rfl (gS (X8 EA (X7 (XY ho) rfl) (gS (XX (a:=(l.length:Nat)) (b:=(l.length:Nat)) rfl rfl (AH _ _ _ _) (kT (rfl) (cT rfl (gS (Yt _ _ w0.heap.size _ 48 EA wr30_ig94.choose_spec.1 wr30_ig94.choose_spec.2 EA (l) ([x]) (YO ho (vr v rfl)) (X7 g (vr c rfl)) (fun _ _=>DE) (by simp only[AbK,AbO];omega) (by simp only[AbK,AbO];omega) f.size fun i k m h=> ?_)))))))))))))));have h:Grew w k v i:=h;clear g;clear hE;have f:=Bo f h ho.2 (Abx _);clear j;clear ho;refine AC rfl (vr i rfl) ?_;exact⟨_,rfl,m,f⟩
section
variable {α : Type} {b k g c : Nat} {t : Abz} {enc : α -> List Abs} {w : Abt} {v : Abs} {l : List α} {R : List Abs}
theorem OG.row(h:OG b t k enc w v l)(h0:0<l.length):∃g c R,v = .slice (some ⟨g,0,none⟩) l.length c/\b<=g/\w.heap[g]? =some (.cells (l.flatMap enc++R).toArray t (0,0))/\(l.flatMap enc++R).length=c*k/\l.length<=c/\c<=maxLen:=by
 obtain⟨-,hx,⟨-,h1⟩ | ⟨g,c,cur,rfl,hb,hg,hn,hm,hs,ht⟩⟩:=h
 ·omega
 ·refine⟨g,c,cur.toList.drop (l.length*k),rfl,hb,?_,?_,hn,hm⟩
  ·rw[<-ht,AcS];exact hg
  ·rw[<-ht,AcS,AcZ,hs]
theorem Zf(hl:∀x∈l,(enc x).length=k)(hb:b<=g)(hg:w.heap[g]? =some (.cells (l.flatMap enc++R).toArray t (0,0)))(hL:(l.flatMap enc++R).length=c*k)(hn:l.length<=c)(hm:c<=maxLen):OG b t k enc w (.slice (some ⟨g,0,none⟩) l.length c) l:=
 ⟨hl,Ha hl, .inr ⟨g,c,_,rfl,hb,hg,hn,hm,by rw[Ab5,hL],by rw[List.toList_toArray,AcH (Ha hl)]⟩⟩
theorem MN(d:α){p:Nat}(hp:p<l.length):l.flatMap enc=(l.take p).flatMap enc++enc (l.getD p d)++(l.drop (p+1)).flatMap enc:=by
 conv=>lhs;rw[<-AcS p l,Adt hp]
 rw[Ac0,Acl,<-AbV,AbA,AbG hp];rfl
end
section
variable {P : AbN} {K : Abs -> Abt -> Prop} {ρ : Ah} {w : Abt} {d : Option Tmp} {ty : Abz} {pos : String} {af : Array Ack} {gd : Option (Nat × Bool)} {α : Type} {t : Abz}
theorem Aar{k:Nat}{enc:α->List Abs}{e:Abz}{x:AbD}{a:α}(hx:Ab ρ x = .agg (enc a).toArray)(hl:(enc a).length=k) 
  (hr:∀(cs:Array Abs),cs.size=k->∀w:Abt,(Ab1 t 1 #[(0, .agg cs)]).run P w = .ok (.slice (some ⟨w.heap.size,0,none⟩) 1 1) (w.alloc (.cells cs e)))
  (hk:∀b w',w.heap.size=b->w'.heap[b]? =some (.cells (enc a).toArray e (0,0))->Ext w w' ->w'.heap.size=w.heap.size+1->K (.slice (some ⟨b,0,none⟩) 1 1) w'):Yk P K ((execOp (Ab ρ) ⟨d, .buildSlice t 1 #[(0,x)],ty,pos,af,gd⟩).run P w):=by
 have hE:Ext w (w.alloc (.cells (enc a).toArray e)):=(Aco _ _).alloc (Abx _) _;refine AaL (v:= .slice (some ⟨w.heap.size,0,none⟩) 1 1) (w' :=w.alloc (.cells (enc a).toArray e)) ?_ (hk _ _ rfl (heap_alloc_new w _) hE (by simp));unfold execOp;simp only[AbI,AbL,AbP,hx,AbC,hr _ (show(enc a).toArray.size=k by rw[Ab5];exact hl),AbB,AbE]
theorem Rr{l:List α}{p:Nat}{x:α}(hp:p<l.length):l.set p x=l.take p++x :: l.drop (p+1):=by rw[List.set_eq_take_append_cons_drop,if_pos hp]
theorem Zu{b:Nat}{t' e:Abz}{v:Abs}{l:List AF}{g p:Nat}{i:B4}{x y:AbD}(hx:Ab ρ x=PQ g (p*33+1))(hy:Ab ρ y = .agg (Abv i.1).toArray)(h:OG b e 33 nmdC w v l)(hg:v.ownBlock=some g)(hp:p<l.length)(hinfo:(P.info? t').map (·.size)=some 32) 
  (hk:∀w',OG b e 33 nmdC w' v (l.set p ⟨(l.getD p dNmd).name,i⟩)->Grew w w' v v->K undef w'):Yk P K ((execOp (Ab ρ) ⟨d, .store t' x y,ty,pos,af,gd⟩).run P w):=by
 obtain⟨g',c,R,rfl,hb,hC,hL,hc,hm⟩:=h.row (by omega);obtain rfl:g' =g:=by simpa [Acb] using hg
 have h1:=i.2;have h2:=(l.getD p dNmd).id.2;have a:l.flatMap nmdC++R=((l.take p).flatMap nmdC++ [St (l.getD p dNmd).name])++Abv (l.getD p dNmd).id.1++((l.drop (p+1)).flatMap nmdC++R):=by
  rw[MN dNmd hp];simp[nmdC]
 have f:((l.set p ⟨(l.getD p dNmd).name,i⟩).flatMap nmdC)++R=((l.take p).flatMap nmdC++ [St (l.getD p dNmd).name])++Abv i.1++((l.drop (p+1)).flatMap nmdC++R):=by
  rw[Rr hp,Ac0,Acl];simp[nmdC]
 have hn:((l.take p).flatMap nmdC).length=p*33:=by rw[Ha (fun x _=>BB x),AbR];congr 1;omega
 rw[a]at hC;refine Yw hx hy hC (by rw[Aby,hn];rfl) (by rw[AbH,AbH,h1,h2]) (by rw[AbH,h1];exact hinfo) (Aw _) fun w' k1 k2 _=>hk w' ?_ ⟨k2,fun k hk=> .inl hk⟩;rw[<-f]at k1;rw[show l.length=(l.set p (⟨(l.getD p dNmd).name,i⟩:AF)).length by rw[Ady]];refine Zf (fun x _=>BB x) hb k1 ?_ (by rw[Ady];exact hc) hm;rw[<-hL,a,f];simp only[Aby,AbH,h1,h2]
end
theorem MO{l:List AF}:∀u∈l.flatMap nmdC,u.oneCell' =true:=fun u hu=>by
 obtain⟨x,-,hx⟩:=List.mem_flatMap.1 hu;exact DE u hx
theorem nmds_len(l:List AF):(l.flatMap nmdC).length=l.length*33:=Ha (fun x _=>BB x)
theorem Rs(w0 w:Abt)(v:Abs)(l:List AF)(p:Nat)(hE:Ext w0 w)(h:OG w0.heap.size 94 33 nmdC w v l)(hp:p<l.length):
  Calls Abu 155 #[v,NI p,NI (p+1)] w fun e w' =>∃v',e = .returned v' /\OG w0.heap.size 94 33 nmdC w' v' (l.eraseIdx p)/\Ext w0 w' :=by
 obtain⟨g,c,R,rfl,hb,hC,hL,hc,hm⟩:=h.row (by omega);have hl:l.length=p+1+(l.length-(p+1)):=by omega
 rw[MN dNmd hp]at hC hL;refine Calls.mono (Px w _ g c p (l.length-(p+1)) _ _ _ R (by rw[nmds_len,AbR];omega) (BB _) (by rw[nmds_len,AbS]) ((YW _ _ _ _).eq rfl hl rfl) hC hL (by omega) hm MO) fun e w' ⟨R',f,a,b,i⟩=> ?_;rw[<-Ac0,<-List.eraseIdx_eq_take_drop_succ]at a b;have hle:(l.eraseIdx p).length=p+(l.length-(p+1)):=by rw[List.length_eraseIdx_of_lt hp];omega
 refine⟨_,f,?_,Ad hE i hb⟩;rw[<-hle];exact Zf (fun x _=>BB x) hb a b (by omega) hm
theorem Rt(w0 w:Abt)(v f:Abs)(l:List AF)(p b:Nat)(x:AF)(TX:Abz)(hE:Ext w0 w)(h:OG w0.heap.size 94 33 nmdC w v l)(hp:p<=l.length)(hl:l.length<=1000) 
  (hv2:f = .slice (some ⟨b,0,none⟩) 1 1) (hX:w.heap[b]? =some (.cells (nmdC x).toArray TX (0,0))) (hne:v.ownBlock≠some b):
  Calls Abu 156 #[v,NI p,f] w fun e w' =>∃v',e = .returned v' /\OG w0.heap.size 94 33 nmdC w' v' (l.take p++x :: l.drop p)/\Ext w0 w' :=by
 subst hv2;by_cases hpe:p=l.length
 ·subst hpe;rw[List.take_length,List.drop_length];exact Pz w0 w v _ l x hE h (Zq (BB x) hX) hl
 ·obtain⟨g,c,R,rfl,hb,hC,hL,hc,hm⟩:=h.row (by omega);have k:l.flatMap nmdC=(l.take p).flatMap nmdC++(l.drop p).flatMap nmdC:=by rw[<-Ac0,AcS]
  rw[k]at hC hL;refine Calls.mono (Py w _ _ g b c p (l.length-p) TX _ (nmdC x) _ R (by rw[nmds_len,AbR];omega) (BB x) (by rw[nmds_len,AbS]) ((YW _ _ _ _).eq rfl (by omega) rfl) hC hL (by omega) hm (by omega) MO DE (YW _ _ _ _) hX (fun e=>hne (by rw[e];rfl)) (by omega)) fun e w' ⟨g',c',R',m,i,j,r,n,o,a⟩=> ?_;have q:(l.take p).flatMap nmdC++nmdC x++(l.drop p).flatMap nmdC=(l.take p++x :: l.drop p).flatMap nmdC:=by rw[Ac0,Acl,AbV]
  rw[q]at i j;have hle:(l.take p++x :: l.drop p).length=p+1+(l.length-p):=by rw[Aby,AbK,AbR,AbS];omega
  refine⟨_,m,?_,Ad hE o hb⟩;rw[<-hle];refine Zf (fun x _=>BB x) ?_ i j (by omega) n;rcases a with rfl | a
  ·exact hb
  ·exact Abw hE.size a
def Cz(l:List AF)(p:Nat)(y:Ax):Nat × List AF:=
 if(if BF l y.name p=true then(l.getD p dNmd).id else zid).1≠y.old.1 then(15,[])
 else if Ag y.new=true then(if BF l y.name p=true then(0,l.eraseIdx p)else(0,l))
 else if BF l y.name p=true then(0,l.set p ⟨(l.getD p dNmd).name,y.new⟩)
 else if 64<=l.length then(3,[])else(0,l.take p++⟨y.name,y.new⟩ :: l.drop p)
def Bw(l:List AF)(s:AgP):Nat:=(l.takeWhile fun n=>decide (n.name<s)).length
theorem CZ:∀ {l:List AF} {s:AgP} {p:Nat},IH l s p->p=Bw l s
 | [],s,p,h=>by have:=h.1;simp at this;subst this;rfl
 | a :: l,s,p,h=>by
  by_cases ha:a.name<s
  ·cases p with
   | zero=>exact absurd ha (h.2.2 0 (Abx _) (by simp))
   | succ p=>
    have hp:=h.1;have ih:p=Bw l s:=CZ ⟨by simpa using hp,fun j hj=>h.2.1 (j+1) (by omega),fun j hj hl=>h.2.2 (j+1) (by omega) (by simpa using hl)⟩;unfold Bw at ih ⊢;rw[Ad2,if_pos (by simpa using ha),AbK,<-ih]
  ·cases p with
   | zero=>unfold Bw;rw[Ad2,if_neg (by simpa using ha)];rfl
   | succ p=>exact absurd (h.2.1 0 (by omega)) ha
def Ak(l:List AF)(y:Ax):Nat × List AF:=Cz l (Bw l y.name) y
theorem Jp{l:List AF}{s:Bs}{p:Nat}(h:BF l s p=true):p<l.length:=by
 unfold BF at h;simp only[Bool.and_eq_true,decide_eq_true_eq]at h;exact h.1
theorem J6{l:List AF}{p:Nat}{y:Ax}(hf:BF l y.name p=true):Cz l p y=if(l.getD p dNmd).id.1≠y.old.1 then(15,[])else if Ag y.new=true then(0,l.eraseIdx p)else(0,l.set p ⟨(l.getD p dNmd).name,y.new⟩):=by unfold Cz;rw[hf];rfl
theorem II{l:List AF}{p:Nat}{y:Ax}(hf:BF l y.name p=false):Cz l p y=if Acy 32 0≠y.old.1 then(15,[])else if Ag y.new=true then(0,l)else if 64<=l.length then(3,[])else(0,l.take p++⟨y.name,y.new⟩ :: l.drop p):=by unfold Cz;rw[hf];rfl
theorem PA:Plain Abu 154:=fun _ _=>by kernel_rfl
theorem Lm{d:Option Tmp}{ty:Abz}{pos:String}{af:Array Ack}{gd:Option (Nat × Bool)}(σ:AbD->Abs)(w:Abt):(execOp σ ⟨d, .alloc 33,ty,pos,af,gd⟩).run Abu w = .ok (.value (PQ w.heap.size 0)) (w.alloc (.cells (Abv (Acy 32 0)).toArray 33)):=by kernel_rfl
theorem Ln:Plain Abu 36:=fun _ _=>by kernel_rfl
theorem PB:Plain Abu 155:=fun _ _=>by kernel_rfl
theorem KO(z0:ByteArray)(c1_0 c1_1 c1_2 c1_3 c1_4 c1_5 c1_6 c1_7 c1_8 c1_9 c1_10 c1_11 c1_12 c1_13 c1_14 c1_15 c1_16 c1_17 c1_18 c1_19 c1_20 c1_21 c1_22 c1_23 c1_24 c1_25 c1_26 c1_27 c1_28 c1_29 c1_30 c1_31:Abs)(w:Abt):(Acv 94 #[(0, .string z0),(1, .agg #[c1_0,c1_1,c1_2,c1_3,c1_4,c1_5,c1_6,c1_7,c1_8,c1_9,c1_10,c1_11,c1_12,c1_13,c1_14,c1_15,c1_16,c1_17,c1_18,c1_19,c1_20,c1_21,c1_22,c1_23,c1_24,c1_25,c1_26,c1_27,c1_28,c1_29,c1_30,c1_31])]).run Abu w = .ok (.agg #[.string z0,c1_0,c1_1,c1_2,c1_3,c1_4,c1_5,c1_6,c1_7,c1_8,c1_9,c1_10,c1_11,c1_12,c1_13,c1_14,c1_15,c1_16,c1_17,c1_18,c1_19,c1_20,c1_21,c1_22,c1_23,c1_24,c1_25,c1_26,c1_27,c1_28,c1_29,c1_30,c1_31]) w:=by kernel_rfl
theorem Mb(z0:AgP)(z1:B4)(w:Abt):(Acv 94 #[(0,St z0),(1,AB z1.1)]).run Abu w = .ok (.agg (St (z0) :: (Abv z1.1)).toArray) w:=by
 obtain⟨z1,k1⟩:=z1;obtain⟨a1_0,a1_1,a1_2,a1_3,a1_4,a1_5,a1_6,a1_7,a1_8,a1_9,a1_10,a1_11,a1_12,a1_13,a1_14,a1_15,a1_16,a1_17,a1_18,a1_19,a1_20,a1_21,a1_22,a1_23,a1_24,a1_25,a1_26,a1_27,a1_28,a1_29,a1_30,a1_31,rfl⟩:=JJ k1;exact KO _ _ _ _ _ _ _ _ _ _ _ _ _ _ _ _ _ _ _ _ _ _ _ _ _ _ _ _ _ _ _ _ _ w
theorem Ru(c0 c1 c2 c3 c4 c5 c6 c7 c8 c9 c10 c11 c12 c13 c14 c15 c16 c17 c18 c19 c20 c21 c22 c23 c24 c25 c26 c27 c28 c29 c30 c31 c32:Abs)(w:Abt):(Ab1 31 1 #[(0, .agg #[c0,c1,c2,c3,c4,c5,c6,c7,c8,c9,c10,c11,c12,c13,c14,c15,c16,c17,c18,c19,c20,c21,c22,c23,c24,c25,c26,c27,c28,c29,c30,c31,c32])]).run Abu w = .ok (.slice (some ⟨w.heap.size,0,none⟩) 1 1) (w.alloc (.cells #[c0,c1,c2,c3,c4,c5,c6,c7,c8,c9,c10,c11,c12,c13,c14,c15,c16,c17,c18,c19,c20,c21,c22,c23,c24,c25,c26,c27,c28,c29,c30,c31,c32] 94)):=by kernel_rfl
theorem Rv:∀(cs:Array Abs),cs.size=33->∀w:Abt,(Ab1 31 1 #[(0, .agg cs)]).run Abu w = .ok (.slice (some ⟨w.heap.size,0,none⟩) 1 1) (w.alloc (.cells cs 94))
 | ⟨c0 :: c1 :: c2 :: c3 :: c4 :: c5 :: c6 :: c7 :: c8 :: c9 :: c10 :: c11 :: c12 :: c13 :: c14 :: c15 :: c16 :: c17 :: c18 :: c19 :: c20 :: c21 :: c22 :: c23 :: c24 :: c25 :: c26 :: c27 :: c28 :: c29 :: c30 :: c31 :: c32 :: []⟩,_,w=>Ru c0 c1 c2 c3 c4 c5 c6 c7 c8 c9 c10 c11 c12 c13 c14 c15 c16 c17 c18 c19 c20 c21 c22 c23 c24 c25 c26 c27 c28 c29 c30 c31 c32 w
theorem PC:Plain Abu 156:=fun _ _=>by kernel_rfl
theorem J7(w:Abt)(v:Abs)(l:List AF)(hr:RG 33 nmdC w v l)(hl:l.length<=1000)(hs:Dq l)(y:Ax):
  Calls Abu 131 #[v, .agg (updC y).toArray] w fun e w' =>∃v',e = .returned (.tuple #[v',NI (Ak l y).1])/\OG w.heap.size 94 33 nmdC w' v' (Ak l y).2/\Ext w w' :=by
 refine FU (args:= [v, .agg (updC y).toArray]) Tryz.func131 rfl 68 rfl rfl ?_;have hE:=AaF w;refine gS (AaV (vr (.agg (updC y).toArray) rfl) fun n2 w3 b0 ax bg b1=> ?_);have c:=ax;clear ax;have b2:n2<w3.heap.size:=by omega
 have hE:=hE.trans bg;refine gS (AaE N4 rfl (gS (XW Et rfl rfl (Ac c (Eg y)) (gS (X1 PA rfl rfl ((Rp _ v l (hr.keep hE) hl hs y.name).mono ?_))))));rintro e ay ⟨⟨p,rfl,hp⟩,ac⟩;refine⟨_,rfl,?_⟩;refine gS (AaH (vs:= [NI p, .bool (BF l y.name p)]) rfl rfl (gS (AaH (vs:= [NI p, .bool (BF l y.name p)]) rfl rfl ?_)));by_cases hf:BF l y.name p=true
 ·have hlt:p<l.length:=Jp hf;refine gS (Aa1 (v:=AB (Acy 32 0)) (by kernel_rfl) (gS (AaN Lm fun ad bh b3 az a0 b4=> ?_)));have f:=AaF ay;have hE:=hE.trans ac;have ah:=hE.size;have h:=az;clear az;have b5:ad<bh.heap.size:=by omega
  refine gS (Yb (vr (PQ ad 0) rfl) (vr (AB (Acy 32 0)) rfl) h (by exact DO Ace Ace) (by exact Aq Ace) (Aw _) fun bi a1 a2 b6=> ?_);clear h;have h:=a1;clear a1;have b7:=bl h;refine cT (vr (.bool (true)) ((show _=Ac2 (BF l y.name p)from rfl).trans (congrArg Ac2 hf))) ?_;have hE:=hE.trans a0;have hE:=Ad hE a2 (Abw ah (by omega));have b8:(nmdC (l.getD (p) dNmd)).length=33:=(AaT (hr.keep hE) dNmd (by omega));refine gS (Yj EA JZ (by decide) dNmd (X7 (hr.keep hE) rfl) rfl (by omega) fun b9 a3=> ?_);have u:(Abv (l.getD (p) dNmd).id.1).length=32:=by rw[AbH,(l.getD (p) dNmd).id.2]
  refine gS (Y2 (n:=32) NZ (Yo a3 rfl) fun bj ae=> ?_);have ae:PR (Abv (l.getD (p) dNmd).id.1) bj bi:=(JR (l.getD (p) dNmd))▸ae;refine gS (X3 (Yo ae rfl) U6 rfl (by rw[u];exact QX) (gS (Yb (vr (PQ ad 0) rfl) (vr (AB ((l.getD (p) dNmd).id.1)) rfl) h (by exact DO (Ej (u)) Ace) (by exact Aq (Ej (u))) (Aw _) fun a4 a5 ai ca=> ?_)));clear a3;clear ae;clear h;have h:=a5;clear a5;have cb:=bl h;have f:=f.trans a0;have f:=Ad f a2 (Abw (Abx _) (by omega));have f:=Ad f ai (Abw (Abx _) (by omega));have c:=eb (ac.trans f) c;refine gS (Yu rfl h U6 rfl (by exact Aq (Ej (u))) (gS (AaE IX rfl (gS (X3 (AaS c (Eh y) (EH y) rfl) U6 rfl (Aq y.old.2) (gS (Zd (l1:=((l.getD (p) dNmd).id.1)) (l2:=y.old.1) U6 u5 Pg Q7 rfl rfl ((Ej (u))) (y.old.2) ?_)))))));refine cD rfl (fun r=> ?_) fun r=> ?_
  ·have hmv:=r;refine DB rfl (vr (AbJ none 0 0) rfl) (vr (NI 15) rfl) ?_;have hT:Cz l p y=(15,[]):=by rw[J6 hf,if_pos hmv]
   rw[show Cz l p y=Ak l y by unfold Ak;rw[<-CZ hp]]at hT;have hE:=Ad hE ai (Abw ah (by omega));exact⟨_,by rw[hT],by rw[hT];exact(AaQ _ _ _ _ _),hE⟩
  have hmv:=r;have q:=AaF a4;have hE:=Ad hE ai (Abw ah (by omega));have bk:=hE;have bm:=f;have aj:=hE.size;refine gS (X0 Ln rfl ((Dd _ v l (hr.keep hE) (by omega)).mono ?_));rintro e cc ⟨af,rfl,j,ak⟩;refine⟨_,rfl,?_⟩;have bn:OB af n2:=A9 j.2 (bl c);have bo:OB af ad:=A9 j.2 (bl h);have c:=eb ak c;refine gS (AaE IY rfl (gS (X3 (AaS c (CM y) (CW y) rfl) U6 rfl (Aq y.new.2) (gS (X0 Ic rfl ((BZ _ y.new).mono ?_))))));rintro e cd ⟨rfl,x⟩;refine⟨_,rfl,?_⟩;refine gO fun _=>Af (.bool (true)) rfl rfl (gT rfl) (fun hG63=>AaM (vr (.bool (true)) ((show _=Ac2 (BF l y.name p)from rfl).trans (congrArg Ac2 hf))) ⟨rfl,rfl⟩) (Av (gS (Yd rfl (fun hA=>(Ai rfl hA)) rfl fun bb64 hbb65=> ?_)));refine cB (bb64) rfl (fun s=> ?_) fun s=> ?_
  ·subst hbb65;have hz:Ag y.new=true:=by simpa using s
   have hZ1:=ak.trans x;have q:=q.trans hZ1;have j:=j.keep x;refine gS (X6 (xv:=NI p) (yv:=NI 1) rfl rfl rfl (AI _ _ _ (by omega)) (gS (X9 PB rfl rfl rfl ((Rs a4 _ af l p q j hlt).mono ?_))));rintro e ce ⟨bp,rfl,bq,al⟩;refine⟨_,rfl,?_⟩;have hE:=hE.trans hZ1;have hE:=bk.trans al;clear c;have a6:=f.size;have f:=f.trans hZ1;have f:=bm.trans al;clear h;have q:=al;clear j;refine DB rfl (vr bp rfl) (vr (NI 0) rfl) ?_;have hT:Cz l p y=(0,l.eraseIdx p):=by rw[J6 hf,if_neg hmv,if_pos hz]
   rw[show Cz l p y=Ak l y by unfold Ak;rw[<-CZ hp]]at hT;exact⟨_,by rw[hT],by rw[hT];exact(AaP bq aj),hE⟩
  subst hbb65;have hz:Ag y.new=false:=by simpa using s
  have c:=eb x c;refine gS (AaE IY rfl (gS (X3 (AaS c (CM y) (CW y) rfl) U6 rfl (Aq y.new.2) (gS (X0 Ic rfl ((BZ _ y.new).mono ?_))))));rintro e cf ⟨rfl,am⟩;refine⟨_,rfl,?_⟩;refine cF ((rfl).trans (congrArg Ac2 (hz))) ?_;have j:=j.keep (x.trans am);obtain⟨g,hg⟩:=OG.block j hlt;have c:=eb am c;refine cT (vr (.bool (true)) ((show _=Ac2 (BF l y.name p)from rfl).trans (congrArg Ac2 hf))) (gS (AaE IY rfl (gS (X3 (AaS c (CM y) (CW y) rfl) U6 rfl (Aq y.new.2) (gS (Aaj (k:=33) (i:=p) EA JZ rfl j.2 hg rfl (hlt) (gS (AaE NZ rfl (gS (Zu (p:=p) (i:=y.new) rfl rfl j hg hlt QX fun cg br z=> ?_))))))))));have hZ2:=(ak.trans x).trans am;have hE:=hE.trans hZ2;have hE:=Bo hE z j.2 aj;have c:=AU c z bn;have a6:=f.size;have f:=f.trans hZ2;have f:=Bo f z j.2 a6;have h:=eb hZ2 h;have h:=AU h z bo;have q:=q.trans hZ2;have q:=Bo q z j.2 (Abx _);clear j;refine DB rfl (vr af rfl) (vr (NI 0) rfl) ?_;have hT:Cz l p y=(0,l.set p ⟨(l.getD p dNmd).name,y.new⟩):=by rw[J6 hf,if_neg hmv,if_neg (by rw[hz];decide)]
  rw[show Cz l p y=Ak l y by unfold Ak;rw[<-CZ hp]]at hT;exact⟨_,by rw[hT],by rw[hT];exact(AaP br aj),hE⟩
 replace hf:BF l y.name p=false:=by simpa using hf
 refine gS (Aa1 (v:=AB (Acy 32 0)) (by kernel_rfl) (gS (AaN Lm fun a7 bs ch a8 an ci=> ?_)));have m:=AaF ay;have hE:=hE.trans ac;have a9:=hE.size;have t:=a8;clear a8;have cj:a7<bs.heap.size:=by omega
 refine gS (Yb (vr (PQ a7 0) rfl) (vr (AB (Acy 32 0)) rfl) t (by exact DO Ace Ace) (by exact Aq Ace) (Aw _) fun ba bb ao ck=> ?_);clear t;have t:=bb;clear bb;have cl:=bl t;have m:=m.trans an;have m:=Ad m ao (Abw (Abx _) (by omega));have c:=eb (ac.trans m) c;refine cF (vr (.bool (false)) ((show _=Ac2 (BF l y.name p)from rfl).trans (congrArg Ac2 hf))) (gS (Yu rfl t U6 rfl (by exact Aq Ace) (gS (AaE IX rfl (gS (X3 (AaS c (Eh y) (EH y) rfl) U6 rfl (Aq y.old.2) (gS (Zd (l1:=(Acy 32 0)) (l2:=y.old.1) U6 u5 Pg Q7 rfl rfl (Ace) (y.old.2) ?_))))))));refine cD rfl (fun r=> ?_) fun r=> ?_
 ·have hmv:=r;refine DB rfl (vr (AbJ none 0 0) rfl) (vr (NI 15) rfl) ?_;have hT:Cz l p y=(15,[]):=by rw[II hf,if_pos hmv]
  rw[show Cz l p y=Ak l y by unfold Ak;rw[<-CZ hp]]at hT;have hE:=hE.trans an;have hE:=Ad hE ao (Abw a9 (by omega));exact⟨_,by rw[hT],by rw[hT];exact(AaQ _ _ _ _ _),hE⟩
 have hmv:=r;have ag:=AaF ba;have hE:=hE.trans an;have hE:=Ad hE ao (Abw a9 (by omega));have bt:=hE;have bu:=m;have bc:=hE.size;refine gS (X0 Ln rfl ((Dd _ v l (hr.keep hE) (by omega)).mono ?_));rintro e cm ⟨ap,rfl,o,aq⟩;refine⟨_,rfl,?_⟩;have c:=eb aq c;refine gS (AaE IY rfl (gS (X3 (AaS c (CM y) (CW y) rfl) U6 rfl (Aq y.new.2) (gS (X0 Ic rfl ((BZ _ y.new).mono ?_))))));rintro e cn ⟨rfl,aa⟩;refine⟨_,rfl,?_⟩;refine gO fun _=>Af (.bool (false)) rfl rfl (gT rfl) (fun hG118=>AaM (vr (.bool (false)) ((show _=Ac2 (BF l y.name p)from rfl).trans (congrArg Ac2 hf))) ⟨rfl,rfl⟩) (Av (gS (Yd rfl (fun hA=>(Ai rfl hA)) rfl fun bb119 hbb120=> ?_)));refine cB (bb119) rfl (fun s=> ?_) fun s=> ?_
 ·(subst hbb120;simp at s)
 subst hbb120;have c:=eb aa c;refine gS (AaE IY rfl (gS (X3 (AaS c (CM y) (CW y) rfl) U6 rfl (Aq y.new.2) (gS (X0 Ic rfl ((BZ _ y.new).mono ?_))))));rintro e co ⟨rfl,ab⟩;refine⟨_,rfl,?_⟩;refine cB (Ag y.new) rfl (fun ar=> ?_) fun ar=> ?_
 ·have hz:=ar;refine DB rfl (vr ap rfl) (vr (NI 0) rfl) ?_;have hT:Cz l p y=(0,l):=by rw[II hf,if_neg hmv,if_pos hz]
  rw[show Cz l p y=Ak l y by unfold Ak;rw[<-CZ hp]]at hT;have hZ3:=(aq.trans aa).trans ab;have hE:=hE.trans hZ3;have o:=o.keep (aa.trans ab);exact⟨_,by rw[hT],by rw[hT];exact(AaP o bc),hE⟩
 have hz:=ar;have hZ4:=(aq.trans aa).trans ab;have hE:=hE.trans hZ4;refine cF (vr (.bool (false)) ((show _=Ac2 (BF l y.name p)from rfl).trans (congrArg Ac2 hf))) (gS (X8 EA (X7 (hr.keep hE) rfl) (gS (XX (a:=(l.length:Nat)) (b:=(64:Nat)) rfl rfl (E6 _ _ _ _) ?_))));refine cD rfl (fun bv=> ?_) fun bv=> ?_
 ·have hfu:64<=l.length:=by omega
  refine DB rfl (vr (AbJ none 0 0) rfl) (vr (NI 3) rfl) ?_;have hT:Cz l p y=(3,[]):=by rw[II hf,if_neg hmv,if_neg (by rw[hz];decide),if_pos hfu]
  rw[show Cz l p y=Ak l y by unfold Ak;rw[<-CZ hp]]at hT;exact⟨_,by rw[hT],by rw[hT];exact(AaQ _ _ _ _ _),hE⟩
 have hfu:¬64<=l.length:=by omega
 have c:=eb ab c;refine gS (AaE N4 rfl (gS (XW Et rfl rfl (Ac c (Eg y)) (gS (AaE IY rfl (gS (X3 (AaS c (CM y) (CW y) rfl) U6 rfl (Aq y.new.2) (gS (YJ (vr (St (y.name)) rfl) (vr (AB y.new.1) rfl) (fun w=>Mb y.name y.new w) (gS (Aar (enc:=nmdC) (a:=(⟨y.name,y.new⟩:AF)) (vr (.agg (nmdC (⟨y.name,y.new⟩:AF)).toArray) rfl) (BB _) Rv fun bd cp cq be au cr=> ?_)))))))))));have o:=o.keep (aa.trans ab);have bw:OB ap bd:=BX o.2 (by omega);have hZ5:=hZ4.trans au;have ag:=ag.trans hZ5;have o:=o.keep au;refine gS (X9 PC rfl rfl rfl ((Rt ba _ ap _ l p bd (⟨y.name,y.new⟩:AF) _ ag o hp.1 (by omega) rfl be bw).mono ?_));rintro e cs ⟨bx,rfl,bz,av⟩;refine⟨_,rfl,?_⟩;have hE:=hE.trans au;have hE:=bt.trans av;clear c;have ct:=m.size;have m:=m.trans hZ5;have m:=bu.trans av;clear t;have ag:=av;clear be;clear o;refine DB rfl (vr bx rfl) (vr (NI 0) rfl) ?_;have hT:Cz l p y=(0,l.take p++⟨y.name,y.new⟩ :: l.drop p):=by rw[II hf,if_neg hmv,if_neg (by rw[hz];decide),if_neg hfu]
 rw[show Cz l p y=Ak l y by unfold Ak;rw[<-CZ hp]]at hT;exact⟨_,by rw[hT],by rw[hT];exact(AaP bz bc),hE⟩
abbrev B0:Ae:=(⟨[],[],[109,97,105,110],zid,[]⟩,⟨.slice none 0 0, .slice none 0 0, .slice none 0 0⟩)
theorem Rw{d:Option Tmp}{ty:Abz}{pos:String}{af:Array Ack}{gd:Option (Nat × Bool)}(σ:AbD->Abs)(w:Abt):(execOp σ ⟨d, .alloc 36,ty,pos,af,gd⟩).run Abu w = .ok (.value (PQ w.heap.size 0)) (w.alloc (.cells (refsC ((⟨[],[],[],zid,[]⟩,⟨.slice none 0 0, .slice none 0 0, .slice none 0 0⟩):Ae)).toArray 36)):=by kernel_rfl
theorem MP(z2:ByteArray)(w:Abt):(Acv 36 #[(2, .string z2)]).run Abu w = .ok (.agg #[.slice none 0 0, .slice none 0 0, .string z2, .int .u8 0, .int .u8 0, .int .u8 0, .int .u8 0, .int .u8 0, .int .u8 0, .int .u8 0, .int .u8 0, .int .u8 0, .int .u8 0, .int .u8 0, .int .u8 0, .int .u8 0, .int .u8 0, .int .u8 0, .int .u8 0, .int .u8 0, .int .u8 0, .int .u8 0, .int .u8 0, .int .u8 0, .int .u8 0, .int .u8 0, .int .u8 0, .int .u8 0, .int .u8 0, .int .u8 0, .int .u8 0, .int .u8 0, .int .u8 0, .int .u8 0, .int .u8 0, .slice none 0 0]) w:=by kernel_rfl
theorem N6(z2:AgP)(w:Abt):(Acv 36 #[(2,St z2)]).run Abu w = .ok (.agg ((AbJ none 0 0) :: ((AbJ none 0 0) :: (St (z2) :: (Abv zid.1++((AbJ none 0 0) :: ([])))))).toArray) w:=by
 exact MP _ w
theorem Lo:∃fs,Tryz.prog.underlying 36=some (.struct fs):=Df (by kernel_rfl)
theorem J8:(Tryz.prog.info? 36).map (·.size)=some 36:=by kernel_rfl
theorem Rx:Ez Abu 36 refsC:=⟨⟨_,(Lo).choose_spec⟩,fun x=>AM (An x) J8⟩
theorem Ry(w:Abt):
  Calls Abu 75 #[] w fun e w' =>e = .returned (.agg (refsC B0).toArray)/\Ext w w' :=by
 refine gG (args:= []) Tryz.func75 rfl 2 rfl rfl ?_;have hE:=AaF w;refine gS (AaN Rw fun b g k c h l=> ?_);have a:=c;clear c;have m:b<g.heap.size:=by omega
 refine gS (YY (vr (St (([109,97,105,110]:AgP))) rfl) (fun w=>N6 ([109,97,105,110]:AgP) w) (gS (Ya Rx (vr (PQ b 0) rfl) (vr (.agg (refsC ((⟨[],[],([109,97,105,110]:AgP),zid,[]⟩,⟨(AbJ none 0 0),(AbJ none 0 0),(AbJ none 0 0)⟩):Ae)).toArray) rfl) a (A8 rfl rfl rfl) fun i f j n=> ?_)));clear a;have a:i.heap[b]? =some (.cells (refsC ((⟨[],[],([109,97,105,110]:AgP),zid,[]⟩,⟨(AbJ none 0 0),(AbJ none 0 0),(AbJ none 0 0)⟩):Ae)).toArray 36 (0,0)):=f;clear f;have o:=bl a;refine GV rfl (AaR rfl a (Lo).choose_spec rfl (AM (An _) J8)) ?_;have hE:=hE.trans h;have hE:=Ad hE j (Abw (Abx _) (by omega));exact⟨rfl,hE⟩
def MQ(r:As)(y:Ax):Bool:=((decide ((Ak r.branches y).1=0)&&Ag y.new)&&(!Ag y.old))&&decide (r.head=y.name)
def CI(r:As)(y:Ax):Nat × As:=if MQ r y=true then(16,r)else if(Ak r.branches y).1=0 then(0,⟨(Ak r.branches y).2,r.tags,r.head,r.at_,r.log⟩)else((Ak r.branches y).1,r)
def FY(r:As)(y:Ax):Nat × As:=if(Ak r.tags y).1=0 then(0,⟨r.branches,(Ak r.tags y).2,r.head,r.at_,r.log⟩)else((Ak r.tags y).1,r)
def Mm(r:As)(y:Ax):Nat × As:=(0,⟨r.branches,r.tags,y.name,y.new,r.log⟩)
def Cd(r:As)(y:Ax):Nat × As:=if y.kind.toNat=1 then CI r y else if y.kind.toNat=2 then FY r y else Mm r y
structure AppAt (w0 w : Abt) (g : Nat) (z : Ae) : Prop where
 ext:Ext w0 w
 g0:w0.heap.size<=g
 blk:w.heap[g]? =some (.cells (refsC z).toArray 36 (0,0))
 br:OG w0.heap.size 94 33 nmdC w z.2.branches z.1.branches
 tg:OG w0.heap.size 94 33 nmdC w z.2.tags z.1.tags
 lg:OG w0.heap.size 97 67 entC w z.2.log z.1.log
 ab:z.2.branches.ownBlock≠some g
 at_:z.2.tags.ownBlock≠some g
 al:z.2.log.ownBlock≠some g
 lb:Cv z.2.log z.2.branches
 lt:Cv z.2.log z.2.tags
theorem AppAt.keep{w0 w w' :Abt}{g:Nat}{z:Ae}(h:AppAt w0 w g z)(k:Ext w w'):AppAt w0 w' g z:=⟨h.ext.trans k,h.g0,YF k h.blk,h.br.keep k,h.tg.keep k,h.lg.keep k,h.ab,h.at_,h.al,h.lb,h.lt⟩
structure EM (r : As) : Prop where
 br:Dq r.branches
 tg:Dq r.tags
 bl:r.branches.length<=64
 tl:r.tags.length<=64
end Go.Proofs.YtbbbblinjomajaaGreatDoor
