/- Part 6 of what stands behind these statements: laws and walks of the functions that are reached. Conditions: those that each theorem names. -/
import Derived.Test.YtfpekahfdalfkaaGreatDoorB5
set_option linter.unusedVariables false
set_option linter.unusedSimpArgs false
namespace Go.Proofs.YtfpekahfdalfkaaGreatDoor
open _root_.List renaming drop_zero → Afg, take_of_length_le → AdD, length_drop → Ac5, length_append → AcQ, replicate → AcX, length_pos_iff → AiN, getD_eq_getElem?_getD → AcO, getElem?_eq_none → AdY, getElem?_eq_getElem → AcS, take_succ_eq_append_getElem → Adi, mem_append → Adf, mem_singleton → AcY, take_length → Ad6, length_take → Ac8, map_toArray → Ads, map_cons → Ado, map_nil → AdA, length_replicate → Ac7, toArray → Aec, mem_of_getElem? → AdX, mem_cons_self → AdM, flatMap_cons → AdJ, getElem?_append_left → AdF, eq_nil_of_length_eq_zero → Adw, getElem?_eq_some_iff → Adc, mem_map_of_mem → AfK, mem_cons → Adz, lookup_cons → Ael, mem_cons_of_mem → AdO, pairwise_cons → AdZ, mem_map → Adx, drop_of_length_le → AdR, getElem?_toArray → AdG, drop_eq_getElem_cons → Ad3, range → AdN, all_eq_true → Adv, take_append_drop → Afb, filter_append → AfX, filter_eq_self → Agq, getElem_of_mem → Aeh, mem_eraseDups → AfR, mem_filterMap → AeI, size_toArray → Ac6, append_toArray → AeP, cons_append → AdP, nil_append → AdS, pairwise_iff_getElem → Aen, mem_iff_getElem → Agf, getElem_take → AgO, pairwise_append → Aee, length_cons → Adh, length_nil → Adp, filterMap_append → Af9, length_map → Ada, getElem?_map → Aej, getElem_mem → Ad9, length_filterMap_le → AfE, length_singleton → Ac9, filter_cons_of_pos → AgL, filter_cons_of_neg → AgK, length_filter_le → AeE, mem_filter → Aes, filterMap_cons → Ahd, append_nil → AeA, nodup_iff_pairwise_ne → Ahy, mem_or_eq_of_mem_set → Afy, mergeSort_of_pairwise → Ahw, findSome?_cons → Ahe, take_append → AhS, drop_append → AgW, append_assoc → Adn, drop_left → AeM, take_left → Ae8, getElem?_append_right → AdB, map_append → Aei, nodup_append → AeY, getElem?_cons_zero → Afe, zip_cons_cons → AeU, getElem?_cons_succ → Aem, nodup_cons → AeQ, drop_succ_cons → AfI, getElem?_take → AeS, getElem?_zip_eq_some → Agu, length → AgQ, not_mem_nil → Aeu, getElem_map → Agg, map_map → AfD
open _root_.Nat renaming sub_zero → AiR, le_refl → AcP, le_trans → AcN, lt_of_lt_of_le → AdE, zero_le → Adm, beq → Ae9, blt → AeC, le_of_ble_eq_true → Ac2, eq_of_beq_eq_true → Afo, strongRecOn → Ae0, ble → AgI, le_of_lt → AiT, zero_add → Ad4, mul_comm → Agz, min_le_left → Ags, le_add_right → Ae6, lt_of_le_of_lt → AfW, add_assoc → Ae2, sub_self → Aez, add_comm → AgB, not_lt_zero → Aet
open _root_.Go.Proofs.Tryz renaming prog → AcM, underlying3 → AhX, isAgg3 → Ai6, sizeOf3 → Ai1, zeroValue3 → Ah6, underlying5 → Agi, isAgg5 → Ai7, sizeOf5 → Ai2, zeroValue5 → Ah7, underlying9 → Afh, isAgg9 → Agp, sizeOf9 → Af8, zeroValue9 → Afp, underlying0 → Agk, isAgg0 → Aho, sizeOf0 → Ag6, zeroValue0 → Agt, underlying4 → Agj, isAgg4 → Aif, sizeOf4 → AhV, zeroValue4 → Ag5, underlying111 → Ahp, isAgg111 → AiB, sizeOf111 → Ail, zeroValue111 → AhC
open _root_.Go renaming World → AcK, Program → Adg, Value → AcJ, TypeId → AcR, Edge → AdL, FuncId → AeB, Operand → AcW, Oper → Adb, Exit → Afj
open _root_.Go.Deferred renaming ofValue → AfA
open _root_.And renaming intro → Adr
open _root_.Int renaming toNat_natCast → Ac0, emod → Aft, tmod → Ae7
open _root_.Go.Instr renaming buildSlice → Adt
open _root_.Go.Sem renaming run_bind → Ac1, run_pure → Ac3
open _root_.Go.Result renaming andThen_ok → AcV
open _root_.Go.RowKit.Below renaming refl → AdC
open _root_.Go.Value renaming ownBlock → AcT, slice → AcU, int → AeJ, bool → Adl
open _root_.Go.Lib renaming byteCells → AcL, indexByte → Ahx, byteCells_length → AcZ, compareBytes → Adj, uvarint → Ac4
open _root_.Bool renaming or_eq_true → AeF, and_eq_true → AdT, eq_false_or_eq_true → AfF
open _root_.Prod renaming fst → Adk
open _root_.Go.World renaming block_lt_of_cell? → Ad7, cell? → Afc, ownsRow_nil → AdK
open _root_.Go.Addr renaming add → AeO
open _root_.Array renaming getElem?_eq_some_iff → Ade, length_toList → Aew, toList_setIfInBounds → Ae1, getD_eq_getD_getElem? → Ady, getElem?_eq_getElem → Afw, replicate → Aeq, getElem?_replicate → Aea, size_replicate → Agd
open _root_.Go.Op renaming bytesLess → Ad2
open _root_.Option.some renaming inj → Adu, injEq → Aey
open _root_.Option renaming isSome_iff_exists → AgF, getD_some → AdI, map_some → Aeb
open _root_.Go.Region renaming ready → AdV, binds → Ad1, wanted → Ad8, noSelect → Ah8
open _root_.Go.Oper renaming wp → Afn
open _root_.Classical renaming byContradiction → AdW, not_not → AgN
open _root_.Go.Act renaming put → AhH
open _root_.Go.Shelf renaming Ren → Af7
open _root_.UInt8 renaming ofNat → AdQ
open _root_.List.Pairwise renaming nil → AeN
open _root_.Go.Proofs.SlLaysZ renaming n7 → Aiw
open _root_.Go.Fence renaming wide → AfY
open _root_.Decidable renaming not_not → Afu
open Go.RowKit
set_option maxRecDepth 100000
def Ay(p s:List UInt8):List UInt8 × Bool:=if p.length≤s.length∧s.take p.length=p then(s.drop p.length,true)else(s,false)
theorem Yl{p s:List UInt8}(h:¬(p.length≤s.length∧s.take p.length=p)):(Ay p s).2=false:=by unfold Ay;rw[if_neg h]
theorem Xh{p s:List UInt8}(h:p.length≤s.length):(Ay p s).2=decide ((s.drop 0).take (p.length-0)=p):=by
 unfold Ay;rw[Afg,AiR];by_cases q:s.take p.length=p
 ·rw[if_pos ⟨h,q⟩,decide_eq_true q]
 ·rw[if_neg (fun x=>q x.2),decide_eq_false q]
theorem YY{p s:List UInt8}(h:(Ay p s).2=false):Ay p s=(s,false):=by
 unfold Ay at h ⊢;split
 ·rename_i q;rw[if_pos q]at h;cases h
 ·rfl
theorem YZ{p s:List UInt8}(h:(Ay p s).2=true):Ay p s=((s.drop p.length).take (s.length-p.length),true):=by
 unfold Ay at h ⊢;split
 ·rw[AdD (by rw[Ac5];exact AcP _)]
 ·rename_i q;rw[if_neg q]at h;cases h
theorem Xi{p s:List UInt8}(h:(Ay p s).2=true):p.length≤s.length:=by
 unfold Ay at h;split at h
 ·rename_i q;exact q.1
 ·cases h
def nmO(id:List UInt8):List UInt8:= [111,45]++hexOf id
theorem Xj{id:List UInt8}(h:id.length=32):(nmO id).length=66:=by unfold nmO;rw[AcQ,CU,h];rfl
theorem Tk:Plain AcM 169:=fun _ _=>by kernel_rfl
theorem Tl:Plain AcM 124:=fun _ _=>by kernel_rfl
theorem U9:Plain AcM 80:=fun _ _=>by kernel_rfl
set_option maxHeartbeats 1600000
theorem M4(w:AcK)(s p:List UInt8)(hs:s.length≤9223372036854775807):
  Calls AcM 169 #[St s,St p] w fun e w' =>e = .returned (.bool (Ay p s).2)∧Ext w w' :=by
 refine gG (args:= [St (s),St (p)]) Tryz.func169 rfl 18 rfl rfl ?_;have hE:=Ext.refl w;by_cases hl:p.length≤s.length
 ·refine gS (Aam (l:=s) PO rfl (gS (Aam (l:=p) PO rfl (gS (Zv (a:=(s.length:Nat)) (b:=(p.length:Nat)) rfl rfl (EM _ _ _ _) (kT (hl) (gS (Aam (l:=p) PO rfl (gS (Aa4 (l:=s) PO (0) (p.length) rfl (.inl ⟨rfl,rfl⟩) (.inr ⟨.i64,congrArg some rfl⟩) (by omega) (by omega) (gS (Aao (l:=(s.drop (0)).take ((p.length)-(0))) (m:=p) (.inl rfl) rfl rfl (decide ((s.drop (0)).take ((p.length)-(0))=p)) rfl (gS (ZE rfl rfl (Bb rfl (vr (.bool (decide ((s.drop (0)).take ((p.length)-(0))=p))) rfl) ?_)))))))))))))));exact⟨by rw[Xh hl],hE⟩
 refine gS (Aam (l:=s) PO rfl (gS (Aam (l:=p) PO rfl (gS (Zv (a:=(s.length:Nat)) (b:=(p.length:Nat)) rfl rfl (EM _ _ _ _) (kF (hl) (gS (ZH rfl rfl (Bb rfl (vr (.bool (false)) rfl) ?_)))))))));exact⟨by rw[show(Ay p s).2=false from Yl (fun q=>hl q.1)],hE⟩

theorem LM(w:AcK)(s p:List UInt8)(hs:s.length≤9223372036854775807):
  Calls AcM 124 #[St s,St p] w fun e w' =>e = .returned (.tuple #[St (Ay p s).1, .bool (Ay p s).2])∧Ext w w' :=by
 refine gG (args:= [St (s),St (p)]) Tryz.func124 rfl 15 rfl rfl ?_;have hE:=Ext.refl w;refine gS (Zx Tk rfl rfl ((M4 _ s p hs).mono ?_));rintro e c ⟨rfl,b⟩;refine⟨_,rfl,?_⟩;refine gS (Z9 rfl ?_);refine cB (!((Ay p s).2)) rfl (fun a=> ?_) fun a=> ?_
 ·have hc:(Ay p s).2=false:=by simpa using a
  refine BF rfl (vr (St (s)) rfl) (vr (.bool (false)) rfl) ?_;have hE:=hE.trans b;exact⟨by rw[YY hc],hE⟩
 have hc:(Ay p s).2=true:=by simpa using a
 have hpl:=Xi hc;refine gS (Aam (l:=p) PO rfl (gS (Aa4 (l:=s) PO (p.length) (s.length) rfl (.inr ⟨.i64,congrArg some rfl⟩) (.inl ⟨rfl,rfl⟩) (by omega) (by omega) (BF rfl (vr (St ((s.drop (p.length)).take ((s.length)-(p.length)))) rfl) (vr (.bool (true)) rfl) ?_))));have hE:=hE.trans b;exact⟨by rw[YZ hc],hE⟩

theorem In(w:AcK)(s p:List UInt8)(hs:s.length≤9223372036854775807):
  Calls AcM 75 #[St s,St p] w fun e w' =>e = .returned (.tuple #[St (Ay p s).1, .bool (Ay p s).2])∧Ext w w' :=by
 refine gG (args:= [St (s),St (p)]) Tryz.func75 rfl 11 rfl rfl ?_;have hE:=Ext.refl w;refine gS (Zx Tl rfl rfl ((LM _ s p hs).mono ?_));rintro e b ⟨rfl,a⟩;refine⟨_,rfl,?_⟩;refine gS (Yk.extract (vs:= [St ((Ay p s).1), .bool ((Ay p s).2)]) rfl rfl (gS (Yk.extract (vs:= [St ((Ay p s).1), .bool ((Ay p s).2)]) rfl rfl (BF rfl (vr (St ((Ay p s).1)) rfl) (vr (.bool ((Ay p s).2)) rfl) ?_))));have hE:=hE.trans a;exact⟨rfl,hE⟩

theorem Of(w:AcK)(id:List UInt8)(hid:id.length=32):
  Calls AcM 86 #[AB id] w fun e w' =>e = .returned (St (nmO id))∧Ext w w' :=by
 refine gG (args:= [AB id]) Tryz.func86 rfl 6 rfl rfl ?_;have hE:=Ext.refl w;refine gS (Yk.box (vr (AB id) rfl) fun b c i a f j=> ?_);have g:=a;clear a;have k:b<c.heap.size:=by omega
 refine gS (Zz rfl g Wq rfl (by exact Ac hid) (gS (ZA U9 rfl ((PU _ id hid).mono ?_))));rintro e n ⟨rfl,h⟩;refine⟨_,rfl,?_⟩;refine gS (Abm (l:=([111,45]:List UInt8)) (m:=hexOf id) rfl rfl (by rw[CU,hid];simp) (Bb rfl (vr (St ((([111,45]:List UInt8):List UInt8)++(hexOf id:List UInt8))) rfl) ?_));have hE:=hE.trans (f.trans h);exact⟨rfl,hE⟩
def GS:List UInt8:=AcX 32 0
inductive Stp where
  | add (b:List UInt8)
  | sync
  | rem
def CY(D:Ae)(s:List UInt8):Stp→Ae × Nat
  | .add b=>A5 D s b
  | .sync=>BG D s
  | .rem=>BA D s
def AT(D:Ae)(s:List UInt8):List Stp→Ae × Nat
  | []=>(D,0)
  | a :: r=>if(CY D s a).2≠0 then CY D s a else AT (CY D s a).1 s r
theorem Ff(D:Ae)(s:List UInt8)(a:Stp)(r:List Stp):AT D s (a :: r)=if(CY D s a).2≠0 then CY D s a else AT (CY D s a).1 s r:=rfl
def BH(D:Ae)(id:List UInt8):List UInt8 × Nat:=
  if(Ap D (nmO id)).2=4∨((Ap D (nmO id)).2=0∧Sha.sum (Ap D (nmO id)).1≠id)then([],12)else Ap D (nmO id)
def DK(r:Ae × Nat)(id:List UInt8):Ae × List UInt8 × List UInt8 × Nat:=if r.2≠0 then(r.1,GS,[],r.2)else(r.1,id,[],0)
def BT(D:Ae)(b:List UInt8):Ae × List UInt8 × List UInt8 × Nat:=
  if(Ap D (nmO (Sha.sum b))).2=4 then DK (AT D (nmO (Sha.sum b)) [.add b, .sync]) (Sha.sum b)
  else if(Ap D (nmO (Sha.sum b))).2≠0 then(D,GS,[],(Ap D (nmO (Sha.sum b))).2)
  else if(Ap D (nmO (Sha.sum b))).1=b then DK (AT D (nmO (Sha.sum b)) [.sync]) (Sha.sum b)
  else if Sha.sum (Ap D (nmO (Sha.sum b))).1=Sha.sum b then(D,Sha.sum b,(Ap D (nmO (Sha.sum b))).1,7)
  else DK (AT D (nmO (Sha.sum b)) [.rem, .add b, .sync]) (Sha.sum b)
def CI(D:Ae)(s:List UInt8):Option (List UInt8):=
  if(Ay [111,45] s).2=true∧(A4 (Ay [111,45] s).1).2=true∧(BH D (A4 (Ay [111,45] s).1).1).2=0 then some (A4 (Ay [111,45] s).1).1 else none
def EX(D:Ae):List (List UInt8):=(AE D).filterMap (CI D)
section
variable {P : Adg} {K : AcJ → AcK → Prop} {ρ : Ad} {w : AcK} {d : Option Tmp} {ty : AcR} {pos : String} {af : Array AdL} {gd : Option (Nat × Bool)}
theorem AcC{f:AeB}(hp:Plain P f){c:AcW}{args:Array AcW}{at_:Array AcR}{bd caps:Array AcJ}(hc:Aa ρ c = .func (.func f) bd caps)(vs:Array AcJ)(hv:bd++args.map (Aa ρ)++caps=vs) 
    (h:Calls P f vs w fun e w' =>∃v,e = .returned v∧K v w'):Yk P K ((execOp (Aa ρ) ⟨d, .call ⟨.value c,args,at_⟩,ty,pos,af,gd⟩).run P w):=by
  subst hv;refine Yk.enter (f:=f) (args:=bd++args.map (Aa ρ)++caps) (w' :=w) ?_ h;unfold execOp;simp[resolve,hc,AfA,invoke,hp _ w]
theorem Ab9{f:AeB}{c x:AcW}{v y u:AcJ}{bd caps:Array AcJ}{R:Dk→AcK→Prop}{at_:Array AcR}(hp:Plain P f)(hc:Aa ρ c=v)(hve:v = .func (.func f) bd caps)(hx:Aa ρ x=y) 
    (h:Calls P f (bd ++ #[y]++caps) w fun e w' =>∃H',e = .returned u∧R H' w') (hk:∀H' w',R H' w' →K u w'):Yk P K ((execOp (Aa ρ) ⟨d, .call ⟨.value c,#[x],at_⟩,ty,pos,af,gd⟩).run P w):=
  AcC hp (hc.trans hve) _ (by simp[hx]) (h.mono fun e w' ⟨H',q1,q2⟩=>⟨_,q1,hk H' w' q2⟩)
theorem Aau{f:Fn}{x:AcW}{v:AcJ}(hx:Aa ρ x=v)(hk:K (.func f #[v] #[]) w):Yk P K ((execOp (Aa ρ) ⟨d, .makeFunc f #[x] #[],ty,pos,af,gd⟩).run P w):=by
  refine Yk.run (v:= .func f #[v] #[]) ?_ hk;unfold execOp;simp[hx,Instr.makeFunc]
end
section
variable {wb w w' : AcK} {g : Nat} {H H' : Dk} {D D' : Ae}
def StpAt(w:AcK)(g:Nat)(H:Dk)(n:Nat)(v:AcJ):Stp→Prop
  | .add b=>∃bd bb vb,v = .func (.func 87) #[] #[PQ bd 0,PQ bb 0]∧w.heap[bd]? =some (.cells ([PQ g 0]).toArray 50 (0,0))∧w.heap[bb]? =some (.cells ([vb]).toArray 27 (0,0))∧RB w vb b∧(b= []∨∀i,vb.ownBlock=some i→¬BZ H n i)∧b.length≤300
  | .sync=>v = .func (.func 90) #[PQ g 0] #[]
  | .rem=>v = .func (.func 52) #[PQ g 0] #[]
theorem DkW.off(hW:DkW wb w g H D w' H' D'){v:AcJ}{b:List UInt8}(hr:RB w v b)(ho:b= []∨∀i,v.ownBlock=some i→¬BZ H D.files.length i):b= []∨∀i,v.ownBlock=some i→¬BZ H' D'.files.length i:=by
  rcases ho with h0 | ho
  · exact .inl h0
  · by_cases hb:b= []
    · exact .inl hb
    · refine .inr fun i hi q=> ?_;rcases hW.foot i q with q | q
      · exact ho i hi q
      · have:=RB.lt hr (AiN.2 hb) hi;omega
theorem StpAt.step(hD:DkG wb w g H D)(hW:DkW wb w g H D w' H' D'){v:AcJ}{a:Stp}(h:StpAt w g H D.files.length v a):StpAt w' g H' D'.files.length v a:=by
  cases a with
  | sync=>exact h
  | rem=>exact h
  | add b=>
    obtain⟨bd,bb,vb,e,h1,h2,h3,h4,h5⟩:=h;exact⟨bd,bb,vb,e,hD.box hW.chg h1 (by decide) (by decide) (by decide) (by decide),hD.box hW.chg h2 (by decide) (by decide) (by decide) (by decide),h3.chg hW.chg h4,hW.off h3 h4,h5⟩
theorem StpAt.ext{n:Nat}{v:AcJ}{a:Stp}(h:StpAt w g H n v a)(k:Ext w w'):StpAt w' g H n v a:=by
  cases a with
  | sync=>exact h
  | rem=>exact h
  | add b=>
    obtain⟨bd,bb,vb,e,h1,h2,h3,h4,h5⟩:=h;exact⟨bd,bb,vb,e,Ext.blk' k h1,Ext.blk' k h2,h3.keep k,h4,h5⟩
theorem Aaj(h:DkG wb w g H D)(k:Ext w w'):DkW wb w g H D w' H D:=⟨h.keep k,Aaz k,fun _ q=> .inl q⟩
theorem DkW.setT(h:DkW wb w g H D w' H' D'){w2:AcK}{b:Nat}{cs:Array AcJ}{t:AcR}{fr:Nat × Nat}(hg:w'.grownBy w2 (some b))(hb:w'.heap[b]? =some (.cells cs t fr))(hw:w.heap.size≤b)(h1:t≠107)(h2:t≠133)(h3:t≠5)(h4:t≠131)(h5:t≠113)(h6:t≠9)(hwb:wb.heap.size≤w.heap.size):DkW wb w g H D w2 H' D' :=
  ⟨h.g.setT hg hb (AcN hwb hw) h1 h2 h3 h4 h5 h6,Chg.set h.chg hg (.inr hw),h.foot⟩
theorem DkW.trans{w2:AcK}{H2:Dk}{D2:Ae}(h:DkW wb w g H D w' H' D')(k:DkW wb w' g H' D' w2 H2 D2):DkW wb w g H D w2 H2 D2:=
  ⟨k.g,h.chg.trans k.chg h.foot,fun i q=>(k.foot i q).elim (h.foot i) fun r=> .inr (AcN h.chg.size r)⟩
end
theorem H6{D:Ae}(h:Df D)(s:List UInt8):(Ap D s).1.length<1099511627776:=by
  unfold Ap;split
  · exact show(0:Nat)<1099511627776 by omega
  · rename_i k _
    show(A0 D k).1.length<_;by_cases hk:k<D.files.length
    · exact h.files _ (IW hk)
    · unfold A0;rw[AcO,AdY (by omega)];decide
theorem DBd.step{n:Nat}{D:Ae}(h:DBd n D)(s:List UInt8):∀(a:Stp),(∀b,a = .add b→b.length≤300)→DBd (n+1) (CY D s a).1
  | .add b,hb=>h.append s (hb b rfl)
  | .sync,_=>h.sync s
  | .rem,_=>h.drop s
def NewI(n:Nat)(w:AcK)(v:AcJ):Prop:=∀k,v.ownBlock=some k→n≤k∧k<w.heap.size
theorem NewI.keep{n:Nat}{w w' :AcK}{v:AcJ}(h:NewI n w v)(k:Ext w w'):NewI n w' v:=fun j hj=>⟨(h j hj).1,AdE (h j hj).2 k.size⟩
theorem NewI.nil(n:Nat)(w:AcK){a b:Nat}:NewI n w (.slice none a b):=fun k h=>by cases h
theorem NewI.low{n m:Nat}{w:AcK}{v:AcJ}(h:NewI n w v)(hm:m≤n):NewI m w v:=fun j hj=>⟨AcN hm (h j hj).1,(h j hj).2⟩
theorem AaW{n z l:Nat}{e:AcR}{w:AcK}{v:AcJ}{xs:List AcJ}(h:w.ownsRow n e z v l xs):NewI n w v:=fun k hk=>h.lt k hk
structure StpsAt (w : AcK) (g : Nat) (H : Dk) (n : Nat) (vs : List AcJ) (ac : List Stp) : Prop where
 len:vs.length=ac.length
 at_:∀i,i<ac.length→StpAt w g H n (vs.getD i undef) (ac.getD i .sync)
theorem StpsAt.ext{w w' :AcK}{g n:Nat}{H:Dk}{vs:List AcJ}{ac:List Stp}(h:StpsAt w g H n vs ac)(k:Ext w w'):StpsAt w' g H n vs ac:=⟨h.len,fun i hi=>(h.at_ i hi).ext k⟩
theorem StpsAt.step{wb w w' :AcK}{g:Nat}{H H' :Dk}{D D' :Ae}{vs:List AcJ}{ac:List Stp}(h:StpsAt w g H D.files.length vs ac)(hD:DkG wb w g H D)(hW:DkW wb w g H D w' H' D'):StpsAt w' g H' D'.files.length vs ac:=⟨h.len,fun i hi=>(h.at_ i hi).step hD hW⟩
theorem DkW.keep{wb w w' w2:AcK}{g:Nat}{H H' :Dk}{D D' :Ae}(h:DkW wb w g H D w' H' D')(k:Ext w' w2):DkW wb w g H D w2 H' D' :=⟨h.g.keep k,h.chg.keep k,h.foot⟩
theorem Mt{l:List Stp}{i:Nat}(h:i<l.length):l.drop i=l.getD i .sync :: l.drop (i+1):=by
 rw[AcO,AcS h];simp
theorem Va:Plain AcM 88:=fun _ _=>by kernel_rfl
theorem Mu:Tryz.prog.underlying 231=some (.slice 101):=by kernel_rfl
theorem Tm:∀w' :AcK,(sizeOf 101).run AcM w' = .ok 1 w' :=fun _=>by kernel_rfl
theorem Tn:Tryz.prog.underlying 101=some (.func #[9] #[29] false):=by kernel_rfl
theorem To(wb w:AcK)(g:Nat)(H:Dk)(D:Ae)(hD:DkG wb w g H D)(s:List UInt8)(bd bb:Nat)(vb:AcJ)(b:List UInt8)(hbd:w.heap[bd]? =some (.cells ([PQ g 0]).toArray 50 (0,0)))(hbb:w.heap[bb]? =some (.cells ([vb]).toArray 27 (0,0)))(hr:RB w vb b)(hoff:b= []∨∀i,vb.ownBlock=some i→¬BZ H D.files.length i)(hbl:b.length<1099511627776)(hL:Df D):
  Calls AcM 87 #[St s,PQ bd 0,PQ bb 0] w fun e w' =>∃H',e = .returned (NI (A5 D s b).2)∧DkW wb w g H D w' H' ((A5 D s b).1):=by
 refine gG (args:= [St (s),PQ bd 0,PQ bb 0]) Tryz.func87 rfl 9 rfl rfl ?_;have hE:=Ext.refl w;refine gS (Zu UQ rfl rfl (cellAt hbd rfl) (gS (Zu Gj rfl rfl (cellAt hbb rfl) (gS (ZV Va rfl rfl rfl (((hD.keep hE).appendW s vb b (hr.keep hE) hoff hbl hL).mono ?_))))));rintro e a ⟨H2,rfl,hW⟩;refine⟨_,rfl,?_⟩;refine Bb rfl (vr (NI ((A5 D s b).2)) rfl) ?_;exact⟨H2,rfl,hW⟩

theorem Vb{wb w:AcK}{g:Nat}{H:Dk}{D:Ae}(hD:DkG wb w g H D)(hL:Df D)(s:List UInt8){v:AcJ}{a:Stp}(h:StpAt w g H D.files.length v a):
  ∃f bd caps,v = .func (.func f) bd caps∧Plain AcM f∧Calls AcM f (bd ++ #[St s]++caps) w fun e w' =>∃H',e = .returned (NI (CY D s a).2)∧DkW wb w g H D w' H' (CY D s a).1:=by
 cases a with
 | sync=>exact⟨_,_,_,h,fun _ _=>by kernel_rfl,hD.syncW s hL⟩
 | rem=>exact⟨_,_,_,h,fun _ _=>by kernel_rfl,hD.dropW s hL⟩
 | add b=>
  obtain⟨bd,bb,vb,e,h1,h2,h3,h4,h5⟩:=h;exact⟨_,_,_,e,fun _ _=>by kernel_rfl,To wb w g H D hD s bd bb vb b h1 h2 h3 h4 (by omega) hL⟩
theorem Ki(wb w:AcK)(g:Nat)(H:Dk)(D:Ae)(hD:DkG wb w g H D)(s:List UInt8)(rb:Nat)(vs:List AcJ)(ac:List Stp)(hrb:w.heap[rb]? =some (.cells vs.toArray 101 (0,0)))(k:StpsAt w g H D.files.length vs ac)(n:Nat)(hB:DBd n D)(hn:n+ac.length≤100000)(hbs:∀a∈ac,∀b,a = .add b→b.length≤300):
  Calls AcM 89 #[St s, .slice (some ⟨rb,0,none⟩) vs.length vs.length] w fun e w' =>∃H',e = .returned (NI (AT D s ac).2)∧DkW wb w g H D w' H' ((AT D s ac).1):=by
 have hal:=k.len;have hvm:vs.length≤maxLen:=by simp only[maxLen];omega
 refine gG (args:= [St (s), .slice (some ⟨rb,0,none⟩) vs.length vs.length]) Tryz.func89 rfl 21 rfl rfl ?_;have hE:=Ext.refl w;refine gS (AaE Mu rfl (gL (fun(ρ:Ad) (wz:AcK)=>∃i:Nat,∃Hi:Dk,∃Di:Ae,ρ 0=(St (s):AcJ)∧ρ 1=(.slice (some ⟨rb,0,none⟩) vs.length vs.length:AcJ)∧ρ 8=(.slice (some ⟨rb,0,none⟩) vs.length vs.length:AcJ)∧ρ 9=(NI vs.length:AcJ)∧ρ 10=(NI i:AcJ)∧wz.heap[rb]? =some (.cells vs.toArray 101 (0,0))∧DkW wb w g H D wz Hi Di∧StpsAt wz g Hi Di.files.length vs ac∧(i≤ac.length)∧(AT D s ac=AT Di s (ac.drop i))∧(DBd (n+i) Di)∧True) (fun ρ _=>ac.length-(intOf (ρ 10)).toNat) ⟨0,H,D,rfl,rfl,rfl,rfl,rfl,hrb,Aaj hD hE,k.ext hE,Adm _,rfl,hB,trivial⟩ ?_));clear hE;clear hrb;rintro p u ⟨i,Hi,Di,l,q,m,o,c,hrb,hW,hA,hi,hq,hBi,-⟩;have q10:=c;refine gS (Zv (a:=(i:Nat)) (b:=(vs.length:Nat)) c o (AI _ _ _ _) ?_);refine cD rfl (fun f=> ?_) fun f=> ?_
 ·have hlt:i<ac.length:=by have h:=f;rw[hal]at h;exact h
  have hcell:vs[i]? =some (vs.getD i undef):=by rw[AcO,AcS (by rw[hal];exact hlt)];rfl
  refine gS (AaF (i:=i) Mu Tm m c (by rw[hal];exact hlt) (gS (Zu Tn rfl rfl (cellAt hrb hcell) ?_)));obtain⟨fi,bi,ci,hvi,hpl,hcl⟩:=Vb hW.g (hBi.lt (by omega)) s (hA.at_ i hlt);refine gS (Ab9 hpl rfl hvi l hcl fun H2 v hW2=> ?_);have hW3:=hW.trans hW2;have hrb:=hW.g.box hW2.chg hrb (by decide) (by decide) (by decide) (by decide);have r:=hA.step hW.g hW2;refine gS (Zv (a:=((CY Di s (ac.getD i .sync)).2:Nat)) (b:=(0:Nat)) rfl rfl (AY _ _ _ _) ?_);refine cD rfl (fun j=> ?_) fun j=> ?_
  ·refine Bb rfl (vr (NI ((CY Di s (ac.getD i .sync)).2)) rfl) ?_;have hV:AT D s ac=CY Di s (ac.getD i .sync):=by rw[hq,Mt hlt,Ff,if_pos j]
   exact⟨H2,by rw[hV],by rw[hV];exact hW3⟩
  have hst:¬(CY Di s (ac.getD i .sync)).2≠0:=j;have hq3:AT D s ac=AT (CY Di s (ac.getD i .sync)).1 s (ac.drop (i+1)):=by rw[hq,Mt hlt,Ff,if_neg hst]
  have t:=hBi.step s (ac.getD i .sync) (hbs _ (getD_mem .sync hlt));refine gS (Zw (xv:=NI i) (yv:=NI 1) c rfl rfl (Ag _ _ _ (by omega)) (gK (Adr ⟨i+1,H2,(CY Di s (ac.getD i .sync)).1,l,q,m,o,rfl,hrb,hW3,r,by omega,hq3,t,trivial⟩ ?_)));show ac.length-(intOf (NI ((i)+(1)))).toNat<ac.length-(intOf (p 10)).toNat;rw[q10];simp only[intOf,Ac0];omega
 refine Bb rfl (vr (NI 0) rfl) ?_;have hie:i=ac.length:=by have h:=f;rw[hal]at h;omega
 have hV:AT D s ac=(Di,0):=by rw[hq,hie,List.drop_length];rfl
 exact⟨Hi,by rw[hV],by rw[hV];exact hW⟩
theorem Tp{E:Bs→Ent}{id:Bs}{s:Il}{e:Nat}(h:Dj E id s = .error e):e=17∨e=6∨e=18∨e=2:=by
  unfold Dj at h;split at h
  · cases h;exact .inl rfl
  · split at h
    · cases h;exact .inr (.inl rfl)
    · split at h
      · split at h
        · cases h
        · cases h;exact .inr (.inr (.inr rfl))
      · cases h;exact .inr (.inr (.inl rfl))
theorem PV{E:Bs→Ent}{ids:List Bs}:∀ {n e:Nat},DE E ids n = .error e→e=17∨e=6∨e=18∨e=2
  | 0,e,h=>by cases h
  | n+1,e,h=>by
    cases h1:DE E ids n with
    | error a=>rw[GM h1 1]at h;cases h;exact PV h1
    | ok s=>rw[Fd h1]at h;exact Tp h
theorem Xk{b:Bs}{e:Nat}(h:CB b = .error e):e=17∨e=6∨e=18∨e=2:=by
  unfold CB at h;split at h
  · cases h;exact .inr (.inl rfl)
  · unfold Jp at h;split at h
    · split at h
      · unfold HW at h;split at h
        · cases h;exact .inr (.inl rfl)
        · unfold GO at h;split at h
          · cases h;exact .inr (.inl rfl)
          · unfold Hl at h;split at h
            · split at h
              · unfold GN at h;split at h
                · cases h;exact PV ‹_›
                · cases h
              · cases h;exact .inr (.inl rfl)
            · cases h;exact .inr (.inl rfl)
      · cases h;exact .inr (.inl rfl)
    · cases h;exact .inr (.inl rfl)
theorem Xl{b:Bs}{e:Nat}(h:B4 b = .error e):e≠0:=by
  unfold B4 at h;split at h
  · cases h;decide
  · split at h
    · cases h;decide
    · split at h
      · have:=Xk h;omega
      · cases h;decide
structure Ym (ids : List Bs) (o : Il) : Prop where
  all:∀id∈ids,∃x d,o.O id=some (x,d)∧Sha.sum x=id∧x.length≤o.total
  any:∀id x,o.O id=some x→Sha.sum x.1=id∧x.1.length≤o.total∧id∈ids
  total:o.total≤4194304
theorem Lf{E:Bs→Ent}{ids:List Bs}:∀ {n:Nat} {o:Il},n≤ids.length→DE E ids n = .ok o→Ym (ids.take n) o
  | 0,o,_,h=>by
    cases h;exact⟨(fun id hid=>by simp at hid),(fun id x hx=>by cases hx),Adm _⟩
  | n+1,o,hn,h=>by
    cases h1:DE E ids n with
    | error a=>rw[GM h1 1]at h;cases h
    | ok s=>
      have ih:=Lf (by omega) h1;rw[Fd h1]at h;have ht:ids.take (n+1)=ids.take n++ [ids.getD n []]:=by
        rw[Adi (by omega),AcO,AcS (show n<ids.length by omega)];rfl
      cases hd:Ba E 50 (E (ids.getD n []))with
      | none=>rw[K6 hd]at h;cases h
      | some d=>
        cases hc:BP E (d+1) (ids.getD n [])with
        | none=>rw[Mk hd hc]at h;cases h
        | some x=>
          rw[Fc (b:=x.1) (k:=x.2) hd hc]at h;split at h
          · split at h
            · cases h
              rename_i hs hle
              refine⟨fun id hid=> ?_,fun id y hy=> ?_,hle⟩
              · rw[ht]at hid;by_cases e:id=ids.getD n []
                · exact⟨x.1,d,by show updM s.O _ _ id=_;unfold updM;rw[if_pos e],by rw[e];exact hs,by dsimp only;omega⟩
                · obtain⟨y,d',k1,k2,k3⟩:=ih.all id (by
                    rcases Adf.1 hid with q | q
                    · exact q
                    · exact absurd (AcY.1 q) e)
                  exact⟨y,d',by show updM s.O _ _ id=_;unfold updM;rw[if_neg e];exact k1,k2,by dsimp only;omega⟩
              · have hy' :updM s.O (ids.getD n []) (some (x.1,d)) id=some y:=hy;unfold updM at hy';rw[ht];split at hy'
                · cases hy'
                  rename_i e
                  exact⟨by rw[e];exact hs,by dsimp only;omega,by rw[e];simp⟩
                · obtain⟨k1,k2,k3⟩:=ih.any id y hy';exact⟨k1,by dsimp only;omega,by simp[k3]⟩
            · cases h
          · cases h
structure Og (b : Bs) (p : AU) : Prop where
  len:p.1.length≤b.length
  l32:∀id∈p.1,id.length=32
  all:∀id∈p.1,∃x d,p.2 id=some (x,d)∧Sha.sum x=id∧x.length≤4194304
  any:∀id x,p.2 id=some x→Sha.sum x.1=id∧x.1.length≤4194304∧id∈p.1
theorem Rs{b:Bs}{p:AU}(h36:36≤b.length)(h:CB b = .ok p):Og b p:=by
  unfold CB at h;split at h
  · cases h
  · rename_i x hx
    unfold Jp at h;split at h
    · rename_i hc
      split at h
      · rename_i hn
        unfold HW at h;split at h
        · cases h
        · rename_i es hes
          have hel:=IR hes (by omega);unfold GO at h;split at h
          · cases h
          · rename_i s hs
            have hi:=Jo _ _ hs;unfold Hl at h;split at h
            · split at h
              · unfold GN at h;split at h
                · cases h
                · rename_i o ho
                  cases h;have hg:=Lf (AcP _) ho;rw[Ad6]at hg;refine⟨?_,fun id hid=> ?_,fun id hid=> ?_,fun id y hy=> ?_⟩
                  · show s.ids.length≤_;rw[hi.len,hel.1];omega
                  · obtain⟨j,hj,rfl⟩:=hi.ids id hid;refine rowId_len (n:=x.1) ?_ (by rw[hel.1]at hj;exact hj);rw[Ac8,Ac5];omega
                  · obtain⟨y,d,k1,k2,k3⟩:=hg.all id hid;exact⟨y,d,k1,k2,AcN k3 hg.total⟩
                  · obtain⟨k1,k2,k3⟩:=hg.any id y hy;exact⟨k1,AcN k2 hg.total,k3⟩
              · cases h
            · cases h
      · cases h
    · cases h
theorem Rt{b:Bs}{p:AU}(h:B4 b = .ok p):Og b p:=by
  unfold B4 at h;split at h
  · cases h
  · split at h
    · cases h
    · split at h
      · exact Rs (by omega) h
      · cases h
theorem stps1{w:AcK}{g n:Nat}{H:Dk}{v:AcJ}{a:Stp}(h:StpAt w g H n v a):StpsAt w g H n [v] [a]:=⟨rfl,fun i hi=>by
 have:i=0:=by simp at hi;omega
 subst this;exact h⟩
theorem Y0{w:AcK}{g n:Nat}{H:Dk}{v b:AcJ}{a a2:Stp}(h:StpAt w g H n v a)(h2:StpAt w g H n b a2):StpsAt w g H n [v,b] [a,a2]:=⟨rfl,fun i hi=>by
 match i,hi with
 | 0,_=>exact h
 | 1,_=>exact h2⟩
theorem Y1{w:AcK}{g n:Nat}{H:Dk}{v b c:AcJ}{a a2 a3:Stp}(h:StpAt w g H n v a)(h2:StpAt w g H n b a2)(h3:StpAt w g H n c a3):StpsAt w g H n [v,b,c] [a,a2,a3]:=⟨rfl,fun i hi=>by
 match i,hi with
 | 0,_=>exact h
 | 1,_=>exact h2
 | 2,_=>exact h3⟩
section
variable {P : Adg} {K : AcJ → AcK → Prop} {ρ : Ad} {w : AcK} {d : Option Tmp} {ty : AcR} {pos : String} {af : Array AdL} {gd : Option (Nat × Bool)}
theorem Acm{t e:AcR}{x0:AcW}{a:AcJ}(h0:Aa ρ x0=a)(hr:∀w:AcK,(Adt t 1 #[(0,a)]).run P w = .ok (.slice (some ⟨w.heap.size,0,none⟩) 1 1) (w.alloc (.cells #[a] e))) 
  (hk:∀n w',w.heap.size=n→w'.heap[n]? =some (.cells ([a]).toArray e (0,0))→Ext w w' →w'.heap.size=n+1→K (.slice (some ⟨n,0,none⟩) 1 1) w'):Yk P K ((execOp (Aa ρ) ⟨d, .buildSlice t 1 #[(0,x0)],ty,pos,af,gd⟩).run P w):=by
 have hr' :(execOp (Aa ρ) ⟨d, .buildSlice t 1 #[(0,x0)],ty,pos,af,gd⟩).run P w = .ok (.value (.slice (some ⟨w.heap.size,0,none⟩) 1 1)) (w.alloc (.cells #[a] e)):=by
  unfold execOp;simp only[Ads,Ado,AdA,h0,Ac1,hr,AcV,Ac3]
 rw[hr'];exact hk _ _ rfl (heap_alloc_new w _) ((AdC _ _).alloc (AcP _) _) (by simp)
theorem Acn{t e:AcR}{x0 x1:AcW}{a b:AcJ}(h0:Aa ρ x0=a)(h1:Aa ρ x1=b)(hr:∀w:AcK,(Adt t 2 #[(0,a),(1,b)]).run P w = .ok (.slice (some ⟨w.heap.size,0,none⟩) 2 2) (w.alloc (.cells #[a,b] e))) 
  (hk:∀n w',w.heap.size=n→w'.heap[n]? =some (.cells ([a,b]).toArray e (0,0))→Ext w w' →w'.heap.size=n+1→K (.slice (some ⟨n,0,none⟩) 2 2) w'):Yk P K ((execOp (Aa ρ) ⟨d, .buildSlice t 2 #[(0,x0),(1,x1)],ty,pos,af,gd⟩).run P w):=by
 have hr' :(execOp (Aa ρ) ⟨d, .buildSlice t 2 #[(0,x0),(1,x1)],ty,pos,af,gd⟩).run P w = .ok (.value (.slice (some ⟨w.heap.size,0,none⟩) 2 2)) (w.alloc (.cells #[a,b] e)):=by
  unfold execOp;simp only[Ads,Ado,AdA,h0,h1,Ac1,hr,AcV,Ac3]
 rw[hr'];exact hk _ _ rfl (heap_alloc_new w _) ((AdC _ _).alloc (AcP _) _) (by simp)
theorem Aco{t e:AcR}{x0 x1 x2:AcW}{a b c:AcJ}(h0:Aa ρ x0=a)(h1:Aa ρ x1=b)(h2:Aa ρ x2=c)(hr:∀w:AcK,(Adt t 3 #[(0,a),(1,b),(2,c)]).run P w = .ok (.slice (some ⟨w.heap.size,0,none⟩) 3 3) (w.alloc (.cells #[a,b,c] e))) 
  (hk:∀n w',w.heap.size=n→w'.heap[n]? =some (.cells ([a,b,c]).toArray e (0,0))→Ext w w' →w'.heap.size=n+1→K (.slice (some ⟨n,0,none⟩) 3 3) w'):Yk P K ((execOp (Aa ρ) ⟨d, .buildSlice t 3 #[(0,x0),(1,x1),(2,x2)],ty,pos,af,gd⟩).run P w):=by
 have hr' :(execOp (Aa ρ) ⟨d, .buildSlice t 3 #[(0,x0),(1,x1),(2,x2)],ty,pos,af,gd⟩).run P w = .ok (.value (.slice (some ⟨w.heap.size,0,none⟩) 3 3)) (w.alloc (.cells #[a,b,c] e)):=by
  unfold execOp;simp only[Ads,Ado,AdA,h0,h1,h2,Ac1,hr,AcV,Ac3]
 rw[hr'];exact hk _ _ rfl (heap_alloc_new w _) ((AdC _ _).alloc (AcP _) _) (by simp)
end
theorem Gx(w:AcK)(hG:Laid w)(v:AcJ)(l:List UInt8)(h:RBs w v [l])(hl:l.length≤1099511627776):
  Calls AcM 45 #[v] w fun e w' =>e = .returned (AB (Sha.sum l))∧Ext w w' :=by
 have:=PN w hG v [l] h (by simp;omega) (by simp)
 simpa using this
theorem Vc:Plain AcM 86:=fun _ _=>by kernel_rfl
theorem Vd:Plain AcM 42:=fun _ _=>by kernel_rfl
theorem Xm(f0:Fn)(a0 c0:Array AcJ)(f1:Fn)(a1 c1:Array AcJ)(w:AcK):(Adt 231 2 #[(0, .func f0 a0 c0),(1, .func f1 a1 c1)]).run AcM w = .ok (.slice (some ⟨w.heap.size,0,none⟩) 2 2) (w.alloc (.cells #[.func f0 a0 c0, .func f1 a1 c1] 101)):=by kernel_rfl
theorem Kj:Plain AcM 89:=fun _ _=>by kernel_rfl
theorem Xn(f0:Fn)(a0 c0:Array AcJ)(w:AcK):(Adt 231 1 #[(0, .func f0 a0 c0)]).run AcM w = .ok (.slice (some ⟨w.heap.size,0,none⟩) 1 1) (w.alloc (.cells #[.func f0 a0 c0] 101)):=by kernel_rfl
theorem Xo(f0:Fn)(a0 c0:Array AcJ)(f1:Fn)(a1 c1:Array AcJ)(f2:Fn)(a2 c2:Array AcJ)(w:AcK):(Adt 231 3 #[(0, .func f0 a0 c0),(1, .func f1 a1 c1),(2, .func f2 a2 c2)]).run AcM w = .ok (.slice (some ⟨w.heap.size,0,none⟩) 3 3) (w.alloc (.cells #[.func f0 a0 c0, .func f1 a1 c1, .func f2 a2 c2] 101)):=by kernel_rfl
theorem Xp(wb w:AcK)(g:Nat)(H:Dk)(D:Ae)(hD:DkG wb w g H D)(hG:Laid wb)(vb:AcJ)(b:List UInt8)(hr:RB w vb b)(hoff:b= []∨∀i,vb.ownBlock=some i→¬BZ H D.files.length i)(hbl:b.length≤300)(n:Nat)(hB:DBd n D)(hn:n≤99000):
  Calls AcM 47 #[PQ g 0,vb] w fun e w' =>∃H' vo,e = .returned (.tuple #[AB ((BT D b).2.1),vo,NI (BT D b).2.2.2])∧RB w' vo (BT D b).2.2.1∧DkW wb w g H D w' H' (BT D b).1∧∀k,AcT vo=some k→w.heap.size≤k:=by
 refine gG (args:= [PQ g 0,vb]) Tryz.func47 rfl 70 rfl rfl ?_;have hE:=Ext.refl w;refine gS (Aaf (vr (PQ g 0) rfl) rfl fun p w3 cg ax bi ch=> ?_);have j:=ax;clear ax;have ci:p<w3.heap.size:=by omega
 have hE:=hE.trans bi;refine gS (Aaf (vr vb rfl) (RB.one (hr.keep hE)).1 fun q bj cj ay az ck=> ?_);have t:=Ext.refl w3;have cl:=hE.size;have f:=ay;clear ay;have cm:q<bj.heap.size:=by omega
 refine gS (Yk.alloc Ur fun o a0 bk a1 aj cn=> ?_);have hE:=hE.trans az;have t:=t.trans az;have bm:=hE.size;have c:=a1;clear a1;have co:o<a0.heap.size:=by omega
 have hE:=hE.trans aj;have hW:DkW wb w g H D a0 H D:=Aaj hD hE;have hwb:=hD.ext.size;have hrl:=H6 (hB.lt (by omega)) (nmO (Sha.sum b));have cp:=As (bl f) bk;have f:=eb aj f;refine gS (Zu Gj rfl rfl (cellAt f rfl) (gS (ZF Gj (ZB (hr.keep hE) rfl) (gS (Zv (a:=(b.length:Nat)) (b:=(262144:Nat)) rfl rfl (Bh _ _ _ _) (kF (by omega) (cF rfl (gS (Zu Gj rfl rfl (cellAt f rfl) (gS (Aae Gm (ZB (hr.keep hE) (vr vb rfl)) fun bn bo a2 ak=> ?_)))))))))));have hW:DkW wb w g H (D) bo H (D):=(hW.keep ak);refine gS (ZA J8 rfl ((Gx _ (hG.keep (hW).g.ext) bn b a2 (by omega)).mono ?_));rintro e bp ⟨rfl,al⟩;refine⟨_,rfl,?_⟩;have hW:DkW wb w g H (D) bp H (D):=(hW.keep al);have hZ1:=ak.trans al;have c:=eb hZ1 c;refine gS (Zy (vr (PQ o 0) rfl) (vr (AB (Sha.sum b)) rfl) c (by exact Bn (Sha.sum_length _) Ac7) (by exact Ac (Sha.sum_length _)) (Af _) fun bq a3 ad cq=> ?_);have hW:DkW wb w g H (D) bq H (D):=DkW.setT hW ad c (by omega) (by decide) (by decide) (by decide) (by decide) (by decide) (by decide) hwb;clear a2;clear c;have c:=a3;clear a3;have cr:=bl c;refine gS (Zz rfl c Wq rfl (by exact Ac (Sha.sum_length _)) (gS (ZA Vc rfl ((Of _ (Sha.sum b) (Sha.sum_length _)).mono ?_))));rintro e br ⟨rfl,ac⟩;refine⟨_,rfl,?_⟩;have hW:DkW wb w g H (D) br H (D):=(hW.keep ac);have bs:=t.size;have hZ2:=(aj.trans ak).trans al;have t:=t.trans hZ2;have t:=Ab t ad (AcN bs (by omega));have t:=t.trans ac;have j:=eb t j;refine gS (Z8 (vs:= #[PQ p 0,PQ q 0]) (by simp only[Ads,Ado,AdA];exact congrArg Aec (FA (vr (PQ p 0) rfl) (vr (PQ q 0) rfl))) (gS (Zu UQ rfl rfl (cellAt j rfl) ?_)));have hE:=hE.trans hZ1;have hE:=Ab hE ad (AcN bm (by omega));have hE:=hE.trans ac;have hszr_:=(hE).size;refine gS (Zx Vd rfl rfl (((hW).g.read (nmO (Sha.sum b)) (hB.lt (by omega))).mono ?_));rintro e bt ⟨x,rfl,am,u⟩;refine⟨_,rfl,?_⟩;have f:=eb hZ1 f;have f:=kb ad f (by omega);have f:=eb ac f;have c:=eb ac c;have bu:OB x o:=Dp am (bl c);have hW:DkW wb w g H (D) bt H (D):=(hW.keep u);have hvnew:∀k,AcT x=some k→w.heap.size≤k:=fun k hk=>AcN hszr_ (am.lt k hk).1;have r:=ZP am;refine gS (Yk.extract (vs:= [x,NI ((Ap D (nmO (Sha.sum b))).2)]) rfl rfl (gS (Yk.extract (vs:= [x,NI ((Ap D (nmO (Sha.sum b))).2)]) rfl rfl (gS (Zv (a:=((Ap D (nmO (Sha.sum b))).2:Nat)) (b:=(4:Nat)) rfl rfl (AF _ _ _ _) ?_)))));refine cD rfl (fun y=> ?_) fun y=> ?_
 ·have hV:BT D b=DK (AT D (nmO (Sha.sum b)) [.add b, .sync]) (Sha.sum b):=by unfold BT;rw[if_pos y]
  have j:=eb u j;refine gS (Zu UQ rfl rfl (cellAt j rfl) (gS (Aau (vr (PQ g 0) rfl) (gS (Acn (vr (.func (.func 87) #[] #[PQ p 0,PQ q 0]) rfl) (vr (.func (.func 90) #[PQ g 0] #[]) rfl) (fun w=>Xm _ _ _ _ _ _ w) fun b66 bv cs a4 an ct=> ?_)))));have hW:DkW wb w g H (D) bv H (D):=(hW.keep an);have hWc:=hW;have hZ3:=u.trans an;have hE:=hE.trans hZ3;have f:=eb hZ3 f;have j:=eb an j;refine gS (Zx Kj rfl rfl ((Ki wb _ g H D hWc.g (nmO (Sha.sum b)) b66 [.func (.func 87) #[] #[PQ p 0,PQ q 0], .func (.func 90) #[PQ g 0] #[]] [.add b, .sync] a4 (Y0 (show StpAt _ _ _ _ _ (.add b)from⟨p,q,vb,rfl,j,f,(hr.keep hE),hoff,hbl⟩) (show StpAt _ _ _ _ _ (.sync)from rfl)) n hB (by simp;omega) (by simp[hbl])).mono ?_));rintro e ao ⟨H72,rfl,hW73⟩;refine⟨_,rfl,?_⟩;have hWn:=hWc.trans hW73;have j:ao.heap[p]? =some (.cells (([PQ g 0]:List AcJ)).toArray 50 (0,0)):=DkG.box hWc.g hW73.chg j (by decide) (by decide) (by decide) (by decide);have f:ao.heap[q]? =some (.cells (([vb]:List AcJ)).toArray 27 (0,0)):=DkG.box hWc.g hW73.chg f (by decide) (by decide) (by decide) (by decide);have c:=eb hZ3 c;have c:ao.heap[o]? =some (.cells (AcL (Sha.sum b)).toArray 33 (0,0)):=DkG.box hWc.g hW73.chg c (by decide) (by decide) (by decide) (by decide);clear hE;clear hW;clear r;clear a4;have hW:=hWn;refine gS (Zv (a:=((AT D (nmO (Sha.sum b)) [.add b, .sync]).2:Nat)) (b:=(0:Nat)) rfl rfl (AY _ _ _ _) ?_);refine cD rfl (fun s=> ?_) fun s=> ?_
  ·refine gS (Yk.run (v:=AB (AcX 32 0)) (by kernel_rfl) (gS (Zy (vr (PQ o 0) rfl) (vr (AB (AcX 32 0)) rfl) c (by exact Bn Ac7 (Sha.sum_length _)) (by exact Ac Ac7) (Af _) fun bw a5 bx cu=> ?_)));have hW:DkW wb w g H (D) bw H72 ((AT D (nmO (Sha.sum b)) [.add b, .sync]).1):=DkW.setT hW bx c (by omega) (by decide) (by decide) (by decide) (by decide) (by decide) (by decide) hwb;clear c;have c:=a5;clear a5;have cv:=bl c;refine Iy rfl (ResF.row rfl c Wq rfl (by exact Ac Ac7)) (vr (AcU none 0 0) rfl) (vr (NI ((AT D (nmO (Sha.sum b)) [.add b, .sync]).2)) rfl) ?_;have hF:DK (AT D (nmO (Sha.sum b)) [.add b, .sync]) (Sha.sum b)=((AT D (nmO (Sha.sum b)) [.add b, .sync]).1,GS,[],(AT D (nmO (Sha.sum b)) [.add b, .sync]).2):=if_pos s;exact⟨H72,_,by rw[hV,hF];rfl,by rw[hV,hF];exact RB.nil _,by rw[hV,hF];exact hW,fun k h=>by cases h⟩
  refine gS (Zz rfl c Wq rfl (by exact Ac (Sha.sum_length _)) (gS (Zy (vr (PQ o 0) rfl) (vr (AB (Sha.sum b)) rfl) c (by exact Bn (Sha.sum_length _) (Sha.sum_length _)) (by exact Ac (Sha.sum_length _)) (Af _) fun bz a6 b0 cw=> ?_)));have hW:DkW wb w g H (D) bz H72 ((AT D (nmO (Sha.sum b)) [.add b, .sync]).1):=DkW.setT hW b0 c (by omega) (by decide) (by decide) (by decide) (by decide) (by decide) (by decide) hwb;clear c;have c:=a6;clear a6;have cx:=bl c;refine Iy rfl (ResF.row rfl c Wq rfl (by exact Ac (Sha.sum_length _))) (vr (AcU none 0 0) rfl) (vr (NI 0) rfl) ?_;have hF:DK (AT D (nmO (Sha.sum b)) [.add b, .sync]) (Sha.sum b)=((AT D (nmO (Sha.sum b)) [.add b, .sync]).1,(Sha.sum b),[],0):=if_neg s;exact⟨H72,_,by rw[hV,hF],by rw[hV,hF];exact RB.nil _,by rw[hV,hF];exact hW,fun k h=>by cases h⟩
 refine gS (Zv (a:=((Ap D (nmO (Sha.sum b))).2:Nat)) (b:=(0:Nat)) rfl rfl (AY _ _ _ _) ?_);refine cD rfl (fun z=> ?_) fun z=> ?_
 ·have hV:BT D b=(D,GS,[],(Ap D (nmO (Sha.sum b))).2):=by unfold BT;rw[if_neg y,if_pos z]
  have c:=eb u c;refine gS (Zv (a:=((Ap D (nmO (Sha.sum b))).2:Nat)) (b:=(0:Nat)) rfl rfl (AY _ _ _ _) (kT (z) (cT rfl (gS (Yk.run (v:=AB (AcX 32 0)) (by kernel_rfl) (gS (Zy (vr (PQ o 0) rfl) (vr (AB (AcX 32 0)) rfl) c (by exact Bn Ac7 (Sha.sum_length _)) (by exact Ac Ac7) (Af _) fun b1 a7 b2 cy=> ?_)))))));have hW:DkW wb w g H (D) b1 H (D):=DkW.setT hW b2 c (by omega) (by decide) (by decide) (by decide) (by decide) (by decide) (by decide) hwb;clear c;have c:=a7;clear a7;have cz:=bl c;refine Iy rfl (ResF.row rfl c Wq rfl (by exact Ac Ac7)) (vr (AcU none 0 0) rfl) (vr (NI ((Ap D (nmO (Sha.sum b))).2)) rfl) ?_;exact⟨H,_,by rw[hV];rfl,by rw[hV];exact RB.nil _,by rw[hV];exact hW,fun k h=>by cases h⟩
 have hE:=hE.trans u;have f:=eb u f;refine gS (Z3 Gj u5 PO (ZB r rfl) (gS (Zu Gj rfl rfl (cellAt f rfl) (gS (Z3 Gj u5 PO (ZB (hr.keep hE) rfl) (gS (Aao (l:=(Ap D (nmO (Sha.sum b))).1) (m:=b) (.inl rfl) rfl rfl (decide ((Ap D (nmO (Sha.sum b))).1=b)) rfl ?_)))))));refine cD rfl (fun ae=> ?_) fun ae=> ?_
 ·have hV:BT D b=DK (AT D (nmO (Sha.sum b)) [.sync]) (Sha.sum b):=by unfold BT;rw[if_neg y,if_neg z,if_pos ae]
  have j:=eb u j;refine gS (Zu UQ rfl rfl (cellAt j rfl) (gS (Aau (vr (PQ g 0) rfl) (gS (Acm (vr (.func (.func 90) #[PQ g 0] #[]) rfl) (fun w=>Xn _ _ _ w) fun b99 b3 c0 a8 af c1=> ?_)))));have hW:DkW wb w g H (D) b3 H (D):=(hW.keep af);have hWc:=hW;refine gS (Zx Kj rfl rfl ((Ki wb _ g H D hWc.g (nmO (Sha.sum b)) b99 [.func (.func 90) #[PQ g 0] #[]] [.sync] a8 (stps1 (show StpAt _ _ _ _ _ (.sync)from rfl)) n hB (by simp;omega) (by simp[hbl])).mono ?_));rintro e ap ⟨H105,rfl,hW106⟩;refine⟨_,rfl,?_⟩;have hWn:=hWc.trans hW106;have j:=eb af j;have j:ap.heap[p]? =some (.cells (([PQ g 0]:List AcJ)).toArray 50 (0,0)):=DkG.box hWc.g hW106.chg j (by decide) (by decide) (by decide) (by decide);have f:=eb af f;have f:ap.heap[q]? =some (.cells (([vb]:List AcJ)).toArray 27 (0,0)):=DkG.box hWc.g hW106.chg f (by decide) (by decide) (by decide) (by decide);have hZ4:=u.trans af;have c:=eb hZ4 c;have c:ap.heap[o]? =some (.cells (AcL (Sha.sum b)).toArray 33 (0,0)):=DkG.box hWc.g hW106.chg c (by decide) (by decide) (by decide) (by decide);clear hE;clear hW;clear r;clear a8;have hW:=hWn;refine gS (Zv (a:=((AT D (nmO (Sha.sum b)) [.sync]).2:Nat)) (b:=(0:Nat)) rfl rfl (AY _ _ _ _) ?_);refine cD rfl (fun s=> ?_) fun s=> ?_
  ·refine gS (Yk.run (v:=AB (AcX 32 0)) (by kernel_rfl) (gS (Zy (vr (PQ o 0) rfl) (vr (AB (AcX 32 0)) rfl) c (by exact Bn Ac7 (Sha.sum_length _)) (by exact Ac Ac7) (Af _) fun b4 a9 b5 c2=> ?_)));have hW:DkW wb w g H (D) b4 H105 ((AT D (nmO (Sha.sum b)) [.sync]).1):=DkW.setT hW b5 c (by omega) (by decide) (by decide) (by decide) (by decide) (by decide) (by decide) hwb;clear c;have c:=a9;clear a9;have c3:=bl c;refine Iy rfl (ResF.row rfl c Wq rfl (by exact Ac Ac7)) (vr (AcU none 0 0) rfl) (vr (NI ((AT D (nmO (Sha.sum b)) [.sync]).2)) rfl) ?_;have hF:DK (AT D (nmO (Sha.sum b)) [.sync]) (Sha.sum b)=((AT D (nmO (Sha.sum b)) [.sync]).1,GS,[],(AT D (nmO (Sha.sum b)) [.sync]).2):=if_pos s;exact⟨H105,_,by rw[hV,hF];rfl,by rw[hV,hF];exact RB.nil _,by rw[hV,hF];exact hW,fun k h=>by cases h⟩
  refine gS (Zz rfl c Wq rfl (by exact Ac (Sha.sum_length _)) (gS (Zy (vr (PQ o 0) rfl) (vr (AB (Sha.sum b)) rfl) c (by exact Bn (Sha.sum_length _) (Sha.sum_length _)) (by exact Ac (Sha.sum_length _)) (Af _) fun b6 ba b7 c4=> ?_)));have hW:DkW wb w g H (D) b6 H105 ((AT D (nmO (Sha.sum b)) [.sync]).1):=DkW.setT hW b7 c (by omega) (by decide) (by decide) (by decide) (by decide) (by decide) (by decide) hwb;clear c;have c:=ba;clear ba;have c5:=bl c;refine Iy rfl (ResF.row rfl c Wq rfl (by exact Ac (Sha.sum_length _))) (vr (AcU none 0 0) rfl) (vr (NI 0) rfl) ?_;have hF:DK (AT D (nmO (Sha.sum b)) [.sync]) (Sha.sum b)=((AT D (nmO (Sha.sum b)) [.sync]).1,(Sha.sum b),[],0):=if_neg s;exact⟨H105,_,by rw[hV,hF],by rw[hV,hF];exact RB.nil _,by rw[hV,hF];exact hW,fun k h=>by cases h⟩
 refine D6 [0,3,1,2,4,5] [1,2] [] [3] fun bb ag=> ?_;have hW:DkW wb w g H (D) bb H (D):=(hW.keep ag);have ah:=Ext.refl bb;have hZ5:=u.trans ag;have c:=eb hZ5 c;have r:=r.keep ag;refine DM ah ?_;refine yf (fun _ ⟨hZ,_⟩=>Zz rfl (eb hZ c) Wq rfl (by exact Ac (Sha.sum_length _)) zz) (yE (Aae Gm (ZB r (vr x rfl)) fun b8 bc aq aa=> ?_));have hW:DkW wb w g H (D) bc H (D):=(hW.keep aa);have ah:=ah.trans aa;refine⟨ah,?_⟩;have ar:=Ext.refl bc;refine yE (ZA J8 rfl ((Gx _ (hG.keep (hW).g.ext) b8 ((Ap D (nmO (Sha.sum b))).1) aq (by omega)).mono ?_));rintro e b9 ⟨rfl,ab⟩;refine⟨_,rfl,?_⟩;have hW:DkW wb w g H (D) b9 H (D):=(hW.keep ab);have ar:=ar.trans ab;refine⟨ar,?_⟩;refine ys (Abl (l1:=(Sha.sum ((Ap D (nmO (Sha.sum b))).1))) (l2:=(Sha.sum b)) Wq u5 Qq ST rfl rfl ((Sha.sum_length _)) ((Sha.sum_length _)) zz) ?_;refine cD rfl (fun au=> ?_) fun au=> ?_
 ·have hV:BT D b=(D,(Sha.sum b),(Ap D (nmO (Sha.sum b))).1,7):=by unfold BT;rw[if_neg y,if_neg z,if_neg ae,if_pos au]
  have hZ6:=aa.trans ab;have c:=eb hZ6 c;refine gS (Zz rfl c Wq rfl (by exact Ac (Sha.sum_length _)) (gS (Zy (vr (PQ o 0) rfl) (vr (AB (Sha.sum b)) rfl) c (by exact Bn (Sha.sum_length _) (Sha.sum_length _)) (by exact Ac (Sha.sum_length _)) (Af _) fun ca bd be c6=> ?_)));have hW:DkW wb w g H (D) ca H (D):=DkW.setT hW be c (by omega) (by decide) (by decide) (by decide) (by decide) (by decide) (by decide) hwb;clear aq;clear c;have c:=bd;clear bd;have c7:=bl c;refine Iy rfl (ResF.row rfl c Wq rfl (by exact Ac (Sha.sum_length _))) (vr x rfl) (vr (NI 7) rfl) ?_;have r:=r.keep hZ6;have r:=RB.kept r be (.inr bu);exact⟨H,_,by rw[hV],by rw[hV];exact r,by rw[hV];exact hW,hvnew⟩
 have hV:BT D b=DK (AT D (nmO (Sha.sum b)) [.rem, .add b, .sync]) (Sha.sum b):=by unfold BT;rw[if_neg y,if_neg z,if_neg ae,if_neg au]
 have hZ7:=(hZ5.trans aa).trans ab;have j:=eb hZ7 j;refine gS (Zu UQ rfl rfl (cellAt j rfl) (gS (Aau (vr (PQ g 0) rfl) (gS (Zu UQ rfl rfl (cellAt j rfl) (gS (Aau (vr (PQ g 0) rfl) (gS (Aco (vr (.func (.func 52) #[PQ g 0] #[]) rfl) (vr (.func (.func 87) #[] #[PQ p 0,PQ q 0]) rfl) (vr (.func (.func 90) #[PQ g 0] #[]) rfl) (fun w=>Xo _ _ _ _ _ _ _ _ _ w) fun b140 cb c8 bf ai c9=> ?_)))))))));have hW:DkW wb w g H (D) cb H (D):=(hW.keep ai);have hWc:=hW;have hZ8:=((ag.trans aa).trans ab).trans ai;have hE:=hE.trans hZ8;have f:=eb hZ8 f;have j:=eb ai j;refine gS (Zx Kj rfl rfl ((Ki wb _ g H D hWc.g (nmO (Sha.sum b)) b140 [.func (.func 52) #[PQ g 0] #[], .func (.func 87) #[] #[PQ p 0,PQ q 0], .func (.func 90) #[PQ g 0] #[]] [.rem, .add b, .sync] bf (Y1 (show StpAt _ _ _ _ _ (.rem)from rfl) (show StpAt _ _ _ _ _ (.add b)from⟨p,q,vb,rfl,j,f,(hr.keep hE),hoff,hbl⟩) (show StpAt _ _ _ _ _ (.sync)from rfl)) n hB (by simp;omega) (by simp[hbl])).mono ?_));rintro e av ⟨H146,rfl,hW147⟩;refine⟨_,rfl,?_⟩;have hWn:=hWc.trans hW147;have j:av.heap[p]? =some (.cells (([PQ g 0]:List AcJ)).toArray 50 (0,0)):=DkG.box hWc.g hW147.chg j (by decide) (by decide) (by decide) (by decide);have f:av.heap[q]? =some (.cells (([vb]:List AcJ)).toArray 27 (0,0)):=DkG.box hWc.g hW147.chg f (by decide) (by decide) (by decide) (by decide);have hZ9:=(aa.trans ab).trans ai;have c:=eb hZ9 c;have c:av.heap[o]? =some (.cells (AcL (Sha.sum b)).toArray 33 (0,0)):=DkG.box hWc.g hW147.chg c (by decide) (by decide) (by decide) (by decide);clear hE;clear hW;clear r;clear aq;clear bf;have hW:=hWn;refine gS (Zv (a:=((AT D (nmO (Sha.sum b)) [.rem, .add b, .sync]).2:Nat)) (b:=(0:Nat)) rfl rfl (AY _ _ _ _) ?_);refine cD rfl (fun s=> ?_) fun s=> ?_
 ·refine gS (Yk.run (v:=AB (AcX 32 0)) (by kernel_rfl) (gS (Zy (vr (PQ o 0) rfl) (vr (AB (AcX 32 0)) rfl) c (by exact Bn Ac7 (Sha.sum_length _)) (by exact Ac Ac7) (Af _) fun cc bg cd da=> ?_)));have hW:DkW wb w g H (D) cc H146 ((AT D (nmO (Sha.sum b)) [.rem, .add b, .sync]).1):=DkW.setT hW cd c (by omega) (by decide) (by decide) (by decide) (by decide) (by decide) (by decide) hwb;clear c;have c:=bg;clear bg;have db:=bl c;refine Iy rfl (ResF.row rfl c Wq rfl (by exact Ac Ac7)) (vr (AcU none 0 0) rfl) (vr (NI ((AT D (nmO (Sha.sum b)) [.rem, .add b, .sync]).2)) rfl) ?_;have hF:DK (AT D (nmO (Sha.sum b)) [.rem, .add b, .sync]) (Sha.sum b)=((AT D (nmO (Sha.sum b)) [.rem, .add b, .sync]).1,GS,[],(AT D (nmO (Sha.sum b)) [.rem, .add b, .sync]).2):=if_pos s;exact⟨H146,_,by rw[hV,hF];rfl,by rw[hV,hF];exact RB.nil _,by rw[hV,hF];exact hW,fun k h=>by cases h⟩
 refine gS (Zz rfl c Wq rfl (by exact Ac (Sha.sum_length _)) (gS (Zy (vr (PQ o 0) rfl) (vr (AB (Sha.sum b)) rfl) c (by exact Bn (Sha.sum_length _) (Sha.sum_length _)) (by exact Ac (Sha.sum_length _)) (Af _) fun ce bh cf dc=> ?_)));have hW:DkW wb w g H (D) ce H146 ((AT D (nmO (Sha.sum b)) [.rem, .add b, .sync]).1):=DkW.setT hW cf c (by omega) (by decide) (by decide) (by decide) (by decide) (by decide) (by decide) hwb;clear c;have c:=bh;clear bh;have dd:=bl c;refine Iy rfl (ResF.row rfl c Wq rfl (by exact Ac (Sha.sum_length _))) (vr (AcU none 0 0) rfl) (vr (NI 0) rfl) ?_;have hF:DK (AT D (nmO (Sha.sum b)) [.rem, .add b, .sync]) (Sha.sum b)=((AT D (nmO (Sha.sum b)) [.rem, .add b, .sync]).1,(Sha.sum b),[],0):=if_neg s;exact⟨H146,_,by rw[hV,hF],by rw[hV,hF];exact RB.nil _,by rw[hV,hF];exact hW,fun k h=>by cases h⟩

theorem Ve:Plain AcM 48:=fun _ _=>by kernel_rfl
theorem PW(wb w:AcK)(g:Nat)(H:Dk)(D:Ae)(hD:DkG wb w g H D)(hG:Laid wb)(hL:Df D)(id:List UInt8)(hid:id.length=32):
  Calls AcM 48 #[PQ g 0,AB id] w fun e w' =>∃v,e = .returned (.tuple #[v,NI (BH D id).2])∧RB w' v (BH D id).1∧Ext w w' ∧NewI w.heap.size w' v:=by
 refine gG (args:= [PQ g 0,AB id]) Tryz.func48 rfl 30 rfl rfl ?_;have hE:=Ext.refl w;refine gS (Yk.box (vr (AB id) rfl) fun u x ai r y aj=> ?_);have i:=r;clear r;have ak:u<x.heap.size:=by omega
 refine gS (Zz rfl i Wq rfl (by exact Ac hid) (gS (ZA Vc rfl ((Of _ id hid).mono ?_))));rintro e al ⟨rfl,s⟩;refine⟨_,rfl,?_⟩;have hE:=hE.trans (y.trans s);have hszr_:=(hE).size;refine gS (Zx Vd rfl rfl (((hD.keep hE).read (nmO id) hL).mono ?_));rintro e am ⟨f,rfl,t,j⟩;refine⟨_,rfl,?_⟩;have hvn:=(AaW t).low hszr_;have c:=ZP t;refine gS (Yk.extract (vs:= [f,NI ((Ap D (nmO id)).2)]) rfl rfl (gS (Yk.extract (vs:= [f,NI ((Ap D (nmO id)).2)]) rfl rfl ?_)));have hrl:=H6 hL (nmO id);by_cases h4:(Ap D (nmO id)).2=4
 ·refine D6 [0,1,2,3,4,5,6,9,7,8,10,11,12] [7,8] [] [9] fun z aa=> ?_;have ab:=Ext.refl z;refine DM ab ?_;refine ys (Zv (a:=((Ap D (nmO id)).2:Nat)) (b:=(4:Nat)) rfl rfl (AF _ _ _ _) zz) (kT (h4) (ys (ZE rfl rfl zz) (cT rfl (BF rfl (vr (AcU none 0 0) rfl) (vr (NI 12) rfl) ?_))));have hV:BH D id=([],12):=if_pos (.inl h4);have hE:=hE.trans (j.trans aa);exact⟨_,by rw[hV],by rw[hV];exact RB.nil _,hE,NewI.nil _ _⟩
 by_cases h0:(Ap D (nmO id)).2=0
 ·refine D6 [0,1,2,3,4,5,6,9,7,8,10,11,12] [7,8] [] [9] fun ac k=> ?_;have l:=Ext.refl ac;have i:=eb ((s.trans j).trans k) i;have c:=c.keep k;refine DM l ?_;refine ys (Zv (a:=((Ap D (nmO id)).2:Nat)) (b:=(4:Nat)) rfl rfl (AF _ _ _ _) zz) (kF (h4) (ys (Zv (a:=((Ap D (nmO id)).2:Nat)) (b:=(0:Nat)) rfl rfl (AF _ _ _ _) zz) (kT (h0) (yf (fun _ ⟨hZ,_⟩=>Zz rfl (eb hZ i) Wq rfl (by exact Ac hid) zz) (yE (Aae Gm (ZB c (vr f rfl)) fun ad ae af m=> ?_))))));have l:=l.trans m;refine⟨l,?_⟩;have n:=Ext.refl ae;have hE:=hE.trans ((j.trans k).trans m);refine yE (ZA J8 rfl ((Gx _ (hG.keep ((hD.keep hE)).ext) ad ((Ap D (nmO id)).1) af (by omega)).mono ?_));rintro e an ⟨rfl,h⟩;refine⟨_,rfl,?_⟩;have n:=n.trans h;refine⟨n,?_⟩;refine ys (AaN (l1:=(Sha.sum ((Ap D (nmO id)).1))) (l2:=id) Wq u5 Qq ST rfl rfl ((Sha.sum_length _)) (hid) zz) (ys (ZE rfl rfl zz) (ys (ZH rfl rfl zz) ?_));refine cD rfl (fun o=> ?_) fun o=> ?_
  ·refine BF rfl (vr (AcU none 0 0) rfl) (vr (NI 12) rfl) ?_;have hV:BH D id=([],12):=if_pos (.inr ⟨h0,o⟩);have hE:=hE.trans h;exact⟨_,by rw[hV],by rw[hV];exact RB.nil _,hE,NewI.nil _ _⟩
  refine BF rfl (vr f rfl) (vr (NI ((Ap D (nmO id)).2)) rfl) ?_;have hV:BH D id=(Ap D (nmO id)):=if_neg (fun q=>q.elim h4 fun q=>o q.2);have hvn:=hvn.keep ((k.trans m).trans h);have hZ1:=m.trans h;have c:=c.keep hZ1;have hE:=hE.trans h;exact⟨_,by rw[hV],by rw[hV];exact c,hE,hvn⟩
 refine D6 [0,1,2,3,4,5,6,9,7,8,10,11,12] [7,8] [] [9] fun ag p=> ?_;have ah:=Ext.refl ag;refine DM ah ?_;refine ys (Zv (a:=((Ap D (nmO id)).2:Nat)) (b:=(4:Nat)) rfl rfl (AF _ _ _ _) zz) (kF (h4) (ys (Zv (a:=((Ap D (nmO id)).2:Nat)) (b:=(0:Nat)) rfl rfl (AF _ _ _ _) zz) (kF (h0) (ys (ZH rfl rfl zz) (ys (ZH rfl rfl zz) (cF rfl (BF rfl (vr f rfl) (vr (NI ((Ap D (nmO id)).2)) rfl) ?_)))))));have hV:BH D id=(Ap D (nmO id)):=if_neg (fun q=>q.elim h4 fun q=>h0 q.1);have hE:=hE.trans (j.trans p);have hvn:=hvn.keep p;have c:=c.keep p;exact⟨_,by rw[hV],by rw[hV];exact c,hE,hvn⟩

theorem Yn(wb w:AcK)(g:Nat)(H:Dk)(D:Ae)(hD:DkG wb w g H D)(hG:Laid wb)(hL:Df D)(id:List UInt8)(hid:id.length=32):
  Calls AcM 48 #[PQ g 0,AB id] w fun e w' =>∃v,e = .returned (.tuple #[v,NI (BH D id).2])∧RB w' v (BH D id).1∧Ext w w' :=
 (PW wb w g H D hD hG hL id hid).mono fun e w' ⟨v,h1,h2,h3,_⟩=>⟨v,h1,h2,h3⟩

theorem Xq(wb w:AcK)(g:Nat)(H:Dk)(D:Ae)(hD:DkG wb w g H D)(hG:Laid wb)(hL:Df D)(id:List UInt8)(hid:id.length=32):
  Calls AcM 97 #[PQ g 0,AB id] w fun e w' =>e = .returned (.bool (decide ((BH D id).2=0)))∧Ext w w' :=by
 refine gG (args:= [PQ g 0,AB id]) Tryz.func97 rfl 15 rfl rfl ?_;have hE:=Ext.refl w;refine gS (Yk.box (vr (AB id) rfl) fun h i m c j n=> ?_);have k:=c;clear c;have o:h<i.heap.size:=by omega
 have hE:=hE.trans j;refine gS (Zz rfl k Wq rfl (by exact Ac hid) (gS (Zx Ve rfl rfl ((Yn wb _ g H D (hD.keep hE) hG hL id hid).mono ?_))));rintro e p ⟨f,rfl,q,l⟩;refine⟨_,rfl,?_⟩;refine gS (Yk.extract (vs:= [f,NI ((BH D id).2)]) rfl rfl (gS (Yk.extract (vs:= [f,NI ((BH D id).2)]) rfl rfl (gS (Zv (a:=((BH D id).2:Nat)) (b:=(0:Nat)) rfl rfl (AF _ _ _ _) (Bb rfl (vr (.bool (decide (((BH D id).2:Nat)=(0)))) rfl) ?_))))));have hE:=hE.trans l;exact⟨rfl,hE⟩

structure EA where
  at_:Nat
  total:Nat
  depths:List Int
  packs:List Int
  bases:List Int
def Lg(s:EA):Bool:=decide (1024≤s.depths.length)||decide (131072≤s.total)
def turnPk(s:EA):EA:=if Lg s=true then⟨s.at_+1,0,[],s.packs,s.bases⟩else s
def F6(ch:List Int)(i k:Nat):Int:=if 0<ch.length then Aft (ch.getD (i%ch.length) 0) ((k+1:Nat):Int)-1 else -1
def LN(s:EA)(b:Int):Int:=if 0≤b then s.depths.getD b.toNat 0+1 else 0
def Gy(z:Int):Nat:=min z.toNat 131072
def Jt(b:Int)(d:Int)(z:Int)(s:EA):EA:=
  if 50<d then⟨s.at_,s.total+Gy z,s.depths++ [0],s.packs++ [(s.at_:Int)],s.bases++ [-1]⟩
  else⟨s.at_,s.total+Gy z,s.depths++ [d],s.packs++ [(s.at_:Int)],s.bases++ [b]⟩
def Dw(ch:List Int)(i:Nat)(z:Int)(s:EA):EA:=Jt (F6 ch i s.depths.length) (LN s (F6 ch i s.depths.length)) z s
def planGo(ch sizes:List Int):Nat→EA
  | 0=>⟨0,0,[],[],[]⟩
  | i+1=>Dw ch i (sizes.getD i 0) (turnPk (planGo ch sizes i))
theorem I1(ch sizes:List Int)(i:Nat):planGo ch sizes (i+1)=Dw ch i (sizes.getD i 0) (turnPk (planGo ch sizes i)):=rfl
theorem Kk(ch:List Int)(i k:Nat): -1≤F6 ch i k∧F6 ch i k<k:=by
  unfold F6;split
  · have h1:=Int.emod_nonneg (ch.getD (i%ch.length) 0) (show((k+1:Nat):Int)≠0 by omega);have h2:=Int.emod_lt_of_pos (ch.getD (i%ch.length) 0) (show(0:Int)<((k+1:Nat):Int) by omega);have h1:0≤Aft (ch.getD (i%ch.length) 0) ((k+1:Nat):Int):=h1;have h2:Aft (ch.getD (i%ch.length) 0) ((k+1:Nat):Int)<((k+1:Nat):Int):=h2;omega
  · omega
theorem Tq(c:Int)(k:Nat):Ae7 (Ae7 c ((k+1:Nat):Int)+(k:Int)+1) ((k+1:Nat):Int)=Aft c ((k+1:Nat):Int):=by
  have hk:(0:Int)<((k+1:Nat):Int):=by omega
  have h0: -((k+1:Nat):Int)<Ae7 c ((k+1:Nat):Int):=Int.lt_tmod_of_pos c hk;have h1:0≤Ae7 c ((k+1:Nat):Int)+(k:Int)+1:=by omega
  rw[Int.tmod_eq_emod_of_nonneg h1];have e:Ae7 c ((k+1:Nat):Int)+(k:Int)+1=Ae7 c ((k+1:Nat):Int)+((k+1:Nat):Int):=by omega
  show Aft _ _=_;rw[e];show(Ae7 c ((k+1:Nat):Int)+((k+1:Nat):Int))%((k+1:Nat):Int)=c%((k+1:Nat):Int);rw[Int.add_emod_right];rw[Int.tmod_def];rw[Int.sub_mul_emod_self_left]
theorem PX(z:Int):Gy z≤131072:=by unfold Gy;omega
structure Oh (i : Nat) (s : EA) : Prop where
  lp:s.packs.length=i
  lb:s.bases.length=i
  ld:s.depths.length≤1024
  dp:∀d∈s.depths,0≤d∧d≤50
  at_:s.at_≤i
  tot:s.total≤262144
theorem Mv{i:Nat}{s:EA}(h:Oh i s):Oh (i+1) { turnPk s with packs:=s.packs++ [0],bases:=s.bases++ [0] } ∧ (turnPk s).depths.length<1024∧(turnPk s).total<131072∧(turnPk s).packs=s.packs∧(turnPk s).bases=s.bases:=by
  have h1:=h.lp;have h2:=h.lb;have h3:=h.ld;have h4:=h.at_;have h5:=h.tot;unfold turnPk;by_cases q:Lg s=true
  · rw[if_pos q];exact⟨⟨by simp[h1],by simp[h2],by simp,by simp,by show s.at_+1≤_;omega,by simp⟩,by simp,by simp,rfl,rfl⟩
  · rw[if_neg q];have hq:s.depths.length<1024∧s.total<131072:=by
      unfold Lg at q;simp only[AeF,decide_eq_true_eq,not_or,Nat.not_le]at q;exact q
    exact⟨⟨by simp[h1],by simp[h2],h3,h.dp,by show s.at_≤_;omega,h5⟩,hq.1,hq.2,rfl,rfl⟩
theorem PY{l:List Int}(h:∀d∈l,0≤d∧d≤50)(i:Nat):0≤l.getD i 0∧l.getD i 0≤50:=by
  rw[AcO];cases e:l[i]? with
  | none=>simp
  | some x=>exact h x (AdX e)
theorem Ru{ch:List Int}{i:Nat}{z b d:Int}{s:EA}(hb:F6 ch i s.depths.length=b)(hd:LN s b=d)(h:¬50<d):Dw ch i z s=⟨s.at_,s.total+Gy z,s.depths++ [d],s.packs++ [(s.at_:Int)],s.bases++ [b]⟩:=by
  unfold Dw Jt;rw[hb,hd,if_neg h]
theorem Vf{ch:List Int}{i:Nat}{z b d:Int}{s:EA}(hb:F6 ch i s.depths.length=b)(hd:LN s b=d)(h:50<d):Dw ch i z s=⟨s.at_,s.total+Gy z,s.depths++ [0],s.packs++ [(s.at_:Int)],s.bases++ [-1]⟩:=by
  unfold Dw Jt;rw[hb,hd,if_pos h]
theorem PZ{s:EA}(h:¬1024≤s.depths.length)(h2:¬131072≤s.total):turnPk s=s:=if_neg (by unfold Lg;simp;omega)
theorem Tr{ch:List Int}{i:Nat}{z:Int}{s:EA}(h:Oh i s):Oh (i+1) (Dw ch i z (turnPk s)):=by
  obtain⟨h1,h2,h3,h4,h5⟩:=Mv h;have hl:=h.lp;have a:=h.lb;have ha:(turnPk s).at_≤i+1:=h1.at_;have hd:∀d∈(turnPk s).depths,0≤d∧d≤50:=h1.dp;have hc:=PX z;unfold Dw Jt;split
  · refine⟨by simp[h4,hl],by simp[h5,a],by rw[AcQ];simp;omega,fun d hdm=> ?_,ha,by show(turnPk s).total+_≤_;omega⟩;rcases Adf.1 hdm with hdm | hdm
    · exact hd d hdm
    · rw[AcY.1 hdm];omega
  · rename_i q
    refine⟨by simp[h4,hl],by simp[h5,a],by rw[AcQ];simp;omega,fun d hdm=> ?_,ha,by show(turnPk s).total+_≤_;omega⟩;rcases Adf.1 hdm with hdm | hdm
    · exact hd d hdm
    · rw[AcY.1 hdm];refine⟨?_,by omega⟩;unfold LN;split
      · have:=PY hd (F6 ch i (turnPk s).depths.length).toNat;omega
      · omega
theorem Ex(ch sizes:List Int):∀i,Oh i (planGo ch sizes i)
  | 0=>⟨rfl,rfl,Adm _,(fun _ h=>by cases h),AcP _,Adm _⟩
  | i+1=>Tr (Ex ch sizes i)
def Ax(b:Bs):Bs:= [112,45]++hexOf (Sha.sum b)
def D5(sg s:Bs):Bool:=(Ay sg s).2&&(A4 (Ay sg s).1).2
def Av(D:Ae)(sg:Bs):List Bs:=(AE D).filter (D5 sg)
def Hs(D:Ae)(s:Bs):Option AU:=match B4 (Ap D s).1 with
  | .ok p=>if Ax (Ap D s).1=s then some p else none
  | .error _=>none
abbrev AN:=List (Bs × AU)
def Ey(D:Ae)(s:Bs):Option (Bs × AU):=(Hs D s).map fun p=>(s,p)
def GT(D:Ae):AN:=(Av D [112,45]).filterMap (Ey D)
def AA(L:AN)(id:Bs):Option Bs:=L.findSome? fun e=>(e.2.2 id).map Adk
def getV(D:Ae)(L:AN)(id:Bs):Bs × Nat:=match AA L id with
  | some b=>(b,0)
  | none=>BH D id
def DC(D:Ae)(L:AN)(b:Bs):Ae × Bs × Bs × Nat:=
  if 262144<b.length then(D,GS,[],2)
  else match AA L (Sha.sum b)with
    | some was=>if was=b then(D,Sha.sum b,[],0)else(D,Sha.sum b,was,7)
    | none=>BT D b
def SlP(Q:Nat→Prop)(w:AcK)(v:AcJ)(n:Nat):Prop:=n=0∨∀k,v.ownBlock=some k→k<w.heap.size∧Q k
theorem SlP.keep{Q:Nat→Prop}{w w' :AcK}{v:AcJ}{n:Nat}(h:SlP Q w v n)(k:Ext w w'):SlP Q w' v n:=h.imp id fun q j hj=>⟨AdE (q j hj).1 k.size,(q j hj).2⟩
theorem Yo{w:AcK}{v:AcJ}{l:Bs}(h:RB w v l):l.length=0∨∀k,v.ownBlock=some k→k<w.heap.size:=by
  obtain⟨h1,ao,cap,rfl,h2,h3,h4,h5⟩:=h;cases l with
  | nil=>exact .inl rfl
  | cons x l=>
    refine .inr fun k hk=> ?_;cases ao with
    | none=>cases hk
    | some a=>
      have:=h5 a rfl 0 (B8 x) rfl;have:=Ad7 w _ this;obtain⟨a1,a2,a3⟩:=a;cases hk
      simpa [AeO] using this
theorem Yq{w:AcK}{v:AcJ}{l:List Bs}(h:RG 32 AcL w v l):l.length=0∨∀k,v.ownBlock=some k→k<w.heap.size:=by
  obtain⟨h0,h1,ao,cap,rfl,h2,h3,h4,h5⟩:=h;cases l with
  | nil=>exact .inl rfl
  | cons x l=>
    refine .inr fun k hk=> ?_;cases ao with
    | none=>cases hk
    | some a=>
      have hx:=h0 x AdM;have hc:0<(AcL x).length:=by rw[hx];decide
      have:=h5 a rfl 0 ((AcL x)[0]) (by rw[AdJ,AdF hc,AcS hc]);have:=Ad7 w _ this;obtain⟨a1,a2,a3⟩:=a;cases hk
      simpa [AeO] using this
theorem RB.chgV{B:Nat→Prop}{w w' :AcK}{v:AcJ}{l:Bs}(h:RB w v l)(hc:Chg B w w')(hB:l.length=0∨∀k,v.ownBlock=some k→¬B k):RB w' v l:=h.chg hc (hB.imp Adw id)
def PackP(Q:Nat→Prop)(w:AcK)(v:AcJ)(p:AU):Prop:=∃g vi bo O,v = .pointer (some ⟨g,0,none⟩)∧p.2=(fun k=>(O k).map Adk)∧w.heap[g]? =some (.cells ([vi, .map (some bo)]).toArray 163 (0,0))∧RG 32 AcL w vi p.1∧MapF rk Ck (fun id:List UInt8=>id.length=32) w bo O∧OOk w O∧Q g∧Q bo∧SlP Q w vi p.1.length∧∀id x,O id=some x→SlP Q w x.2 x.1.1.length
theorem PackP.at_{Q:Nat→Prop}{w:AcK}{v:AcJ}{p:AU}(h:PackP Q w v p):PackAt w v p:=by
  obtain⟨g,vi,bo,O,h1,h2,h3,h4,h5,h6,-⟩:=h;exact⟨g,vi,bo,O,h1,h2,h3,h4,h5,h6⟩
theorem PackP.opt{Q:Nat→Prop}{w:AcK}{v:AcJ}{p:AU}(h:PackP Q w v p):PackO w v (some p):=h.at_
theorem PackP.keep{Q:Nat→Prop}{w w' :AcK}{v:AcJ}{p:AU}(h:PackP Q w v p)(k:Ext w w'):PackP Q w' v p:=by
  obtain⟨g,vi,bo,O,h1,h2,h3,h4,h5,h6,h7,h8,h9,h10⟩:=h;exact⟨g,vi,bo,O,h1,h2,Ext.blk' k h3,h4.keep k,h5.keep k,h6.keep k,h7,h8,h9.keep k,fun id x hx=>(h10 id x hx).keep k⟩
theorem AaZ{Q:Nat→Prop}{n:Nat}{w:AcK}{v:AcJ}{p:AU}(h:PackNew n w v p)(hQ:∀k,n≤k→k<w.heap.size→Q k):PackP Q w v p:=by
  obtain⟨g,vi,bo,O,h1,h2,h3,h4,h5,h6,h7,h8,h9,h10⟩:=h;exact⟨g,vi,bo,O,h1,h2,h3,h4,h5,h6,hQ _ h7 (Ade.1 h3).1,hQ _ h8 h5.lt,(Yq h4).imp id fun q k hk=>⟨q k hk,hQ k (h9 k hk) (q k hk)⟩,fun j x hx=>(Yo (h6 j x hx)).imp id fun q k hk=>⟨q k hk,hQ k (h10 j x hx k hk) (q k hk)⟩⟩
theorem PackP.chg{Q Q' B:Nat→Prop}{w w' :AcK}{v:AcJ}{p:AU}(h:PackP Q w v p)(hc:Chg B w w')(hB:∀k,k<w.heap.size→Q k→¬B k∧Q' k):PackP Q' w' v p:=by
  obtain⟨g,vi,bo,O,h1,h2,h3,h4,h5,h6,h7,h8,h9,h10⟩:=h;have hg:=(Ade.1 h3).1;have sl:∀ {v:AcJ} {n:Nat},SlP Q w v n→SlP Q' w' v n:=fun q=>q.imp id fun z k hk=>⟨AdE (z k hk).1 hc.size,(hB k (z k hk).1 (z k hk).2).2⟩;have off:∀ {v:AcJ} {n:Nat},SlP Q w v n→n=0∨∀k,v.ownBlock=some k→¬B k:=fun q=>q.imp id fun z k hk=>(hB k (z k hk).1 (z k hk).2).1;refine⟨g,vi,bo,O,h1,h2,(hc.blk g hg (hB g hg h7).1).trans h3,?_,h5.chg hc (hB bo h5.lt h8).1,fun id x hx=>(h6 id x hx).chgV hc (off (h10 id x hx)),(hB g hg h7).2,(hB bo h5.lt h8).2,sl h9,fun id x hx=>sl (h10 id x hx)⟩;obtain⟨q0,q1,ao,cap,rfl,q2,q3,q4,q5⟩:=h4;refine⟨q0,q1,ao,cap,rfl,q2,q3,q4,fun a ha j u hu=> ?_⟩;have hl:=q5 a ha j u hu;have hlt:=Ad7 w _ hl;have hbl:(a.add j).block=a.block:=by unfold AeO;split <;> rfl
  have hn:¬B (a.add j).block:=by
    rcases off h9 with z | z
    · have h1:=(Adc.1 hu).1;rw[q1,z]at h1;omega
    · refine z _ ?_;rw[ha,hbl];rfl
  have hb:=hc.blk _ hlt hn;unfold Afc at hl ⊢;rw[hb];exact hl
def pkG(L:AN)(ptr:Bs→Nat)(s:Bs):Option Nat:=(L.lookup s).map fun _=>ptr s
def SortS(l:List Bs):Prop:=l.Pairwise fun a b=>Ad2 a b=true
abbrev pN(n:Nat):AcJ:= .pointer (some ⟨n,0,none⟩)
def PksAt(Q:Nat→Prop)(w:AcK)(L:AN)(ptr:Bs→Nat):Prop:=∀e∈L,PackP Q w (pN (ptr e.1)) e.2
theorem PksAt.keep{Q:Nat→Prop}{w w' :AcK}{L:AN}{ptr:Bs→Nat}(h:PksAt Q w L ptr)(k:Ext w w'):PksAt Q w' L ptr:=fun e he=>(h e he).keep k
theorem PksAt.chg{Q Q' B:Nat→Prop}{w w' :AcK}{L:AN}{ptr:Bs→Nat}(h:PksAt Q w L ptr)(hc:Chg B w w')(hB:∀k,k<w.heap.size→Q k→¬B k∧Q' k):PksAt Q' w' L ptr:=fun e he=>(h e he).chg hc hB
theorem PksAt.set{Q:Nat→Prop}{w w' :AcK}{L:AN}{ptr:Bs→Nat}(h:PksAt Q w L ptr){b:Nat}(hg:w.grownBy w' (some b))(hne:∀k,Q k→k≠b):PksAt Q w' L ptr:=
  h.chg (B:=fun k=>k=b) (ZX hg fun i e=> .inl (Adu e).symm) fun k _ q=>⟨hne k q,q⟩
theorem PksAt.nil(Q:Nat→Prop)(w:AcK)(ptr:Bs→Nat):PksAt Q w [] ptr:=fun e he=>by cases he
def updP(ptr:Bs→Nat)(s:Bs)(g:Nat)(x:Bs):Nat:=if x=s then g else ptr x
theorem Aa7{Q:Nat→Prop}{w:AcK}{L:AN}{ptr:Bs→Nat}(h:PksAt Q w L ptr){s:Bs}{p:AU}{g:Nat}(hs:s∉L.map Adk)(hp:PackP Q w (pN g) p):PksAt Q w (L++ [(s,p)]) (updP ptr s g):=fun e he=>by
  rcases Adf.1 he with he | he
  · rw[show updP ptr s g e.1=ptr e.1 from if_neg (fun(q:e.1=s)=>hs (q▸AfK he))];exact h e he
  · rw[AcY.1 he,show updP ptr s g s=g from if_pos rfl];exact hp
theorem Oi{L:AN}{s:Bs}(h:s∉L.map Adk):L.lookup s=none:=by
  induction L with
  | nil=>rfl
  | cons x r ih=>
    rw[Ado,Adz,not_or]at h;rw[Ael,show(s==x.1)=false by simpa using h.1];exact ih h.2
theorem Kl{L:AN}{ptr:Bs→Nat}{s:Bs}{p:AU}{g:Nat}(hs:s∉L.map Adk):updM (pkG L ptr) s (some g)=pkG (L++ [(s,p)]) (updP ptr s g):=by
  funext x
  unfold updM pkG updP;rw[List.lookup_append];by_cases e:x=s
  · subst e;rw[if_pos rfl,Oi hs];simp
  · rw[if_neg e,if_neg e];rw[show([(s,p)]:AN).lookup x=none by rw[Ael,show(x==s)=false by simpa using e];rfl,Option.or_none]
structure VtAt (n : Nat) (Q : Nat → Prop) (w : AcK) (g gd bm : Nat) (L : AN) (ptr : Bs → Nat) : Prop where
  blk:w.heap[g]? =some (.cells ([PQ gd 0, .map (some bm)]).toArray 86 (0,0))
  map:MapF St pN Nm w bm (pkG L ptr)
  pk:PksAt (fun k=>Q k∧k≠g∧k≠bm) w L ptr
  sort:SortS (L.map Adk)
  g0:Q g
  b0:Q bm
  lo:n≤g
theorem VtAt.keep{n:Nat}{Q:Nat→Prop}{w w' :AcK}{g gd bm:Nat}{L:AN}{ptr:Bs→Nat}(h:VtAt n Q w g gd bm L ptr)(k:Ext w w'):VtAt n Q w' g gd bm L ptr:=
  ⟨Ext.blk' k h.blk,h.map.keep k,h.pk.keep k,h.sort,h.g0,h.b0,h.lo⟩
theorem VtAt.chg{n:Nat}{Q Q' B:Nat→Prop}{w w' :AcK}{g gd bm:Nat}{L:AN}{ptr:Bs→Nat}(h:VtAt n Q w g gd bm L ptr)(hc:Chg B w w')(hB:∀k,k<w.heap.size→Q k→¬B k∧Q' k):VtAt n Q' w' g gd bm L ptr:=by
  have hg:=(Ade.1 h.blk).1;exact⟨(hc.blk g hg (hB g hg h.g0).1).trans h.blk,h.map.chg hc (hB bm h.map.lt h.b0).1,h.pk.chg hc (fun k hk q=>⟨(hB k hk q.1).1,(hB k hk q.1).2,q.2⟩),h.sort,(hB g hg h.g0).2,(hB bm h.map.lt h.b0).2,h.lo⟩
abbrev Cd(H:Dk)(D:Ae)(k:Nat):Prop:=¬BZ H D.files.length k
theorem VtAt.step{n:Nat}{wb w w' :AcK}{g gd bm:Nat}{H H' :Dk}{D D' :Ae}{L:AN}{ptr:Bs→Nat}(h:VtAt n (Cd H D) w g gd bm L ptr)(hW:DkW wb w gd H D w' H' D'):VtAt n (Cd H' D') w' g gd bm L ptr:=
  h.chg hW.chg fun k hk q=>⟨q,fun z=>(hW.foot k z).elim q fun z=>by omega⟩
theorem Lh{α β:Type}[BEq α][LawfulBEq α]{l:List (α × β)}{s:α}{p:β}(h:l.lookup s=some p):(s,p)∈l:=by
  induction l with
  | nil=>cases h
  | cons e r ih=>
    rw[Ael]at h;split at h
    · rename_i q
      cases h;rw[beq_iff_eq]at q;rw[q];exact AdM
    · exact AdO _ (ih h)
theorem GU{L:AN}(hs:SortS (L.map Adk)){e:Bs × AU}(h:e∈L):L.lookup e.1=some e.2:=by
  induction L with
  | nil=>cases h
  | cons x r ih=>
    rw[Ado]at hs;obtain⟨h1,h2⟩:=AdZ.1 hs;rw[Ael];rcases Adz.1 h with rfl | h
    · simp
    · have:=h1 e.1 (AfK h);have hne:¬e.1=x.1:=fun q=>by rw[q,FJ]at this;cases this
      rw[show(e.1==x.1)=false by simpa using hne];exact ih h2 h
theorem SortS.nodup{l:List Bs}(h:SortS l):l.Nodup:=h.imp fun hab e=>by rw[e,FJ]at hab;cases hab
theorem Yr{L:AN}{ptr:Bs→Nat}(hs:SortS (L.map Adk)){i:Nat}(hi:i<L.length){d:Bs × AU}:pkG L ptr (L.getD i d).1=some (ptr (L.getD i d).1):=by
  unfold pkG;rw[GU hs (getD_mem d hi)];rfl
theorem Pm{L:AN}{x:Bs × AU}(hx:x∈L):L.lookup x.1≠none:=by
  induction L with
  | nil=>cases hx
  | cons y r ih=>
    intro e;rw[Ael]at e;split at e
    · cases e
    · rename_i q
      rcases Adz.1 hx with rfl | hx
      · simp at q
      · exact ih hx e
theorem pkG_iff{L:AN}{ptr:Bs→Nat}(s:Bs):(pkG L ptr s).isSome=true↔s∈L.map Adk:=by
  unfold pkG;rw[Option.isSome_map];constructor
  · intro h;obtain⟨p,hp⟩:=AgF.1 h;exact Adx.2 ⟨(s,p),Lh hp,rfl⟩
  · intro h;obtain⟨x,hx,rfl⟩:=Adx.1 h;cases e:L.lookup x.1 with
    | some p=>rfl
    | none=>exact absurd e (Pm hx)
section
variable {P : Adg} {l : List Adb} {kill : Nat → List Nat} {C : Nat → AcK → Prop} {R : Nat → AcK → AcK → Prop} {Φ : Nat → Bm} {a0 : Act}
theorem Ts{z:Nat}(g:GY l z){k:Nat}(ht:∀i,k≤i→i<l.length→∀m,k≤m→m<i→((AL l []).getD i 0).testBit m=true){Q:Afj→Act→AcK→Prop}:
    ∀(fuel m:Nat) (listed:Array Bool) (a:Act) (w:AcK),listed.size=l.length→(∀i,On listed i↔i<m)→k≤m→m≤l.length→l.length≤m+fuel→wpList P l.toArray Q (l.drop m) a w→wpAny P .any l.toArray Q fuel listed a w:=by
  have noReady:∀(m:Nat) (listed:Array Bool),listed.size=l.length→(∀i,On listed i↔i<m)→l.length≤m→AdV .any l.toArray listed= []:=by
    intro m listed hsz hon hm;cases hr:AdV .any l.toArray listed with
    | nil=>rfl
    | cons x xs=>
      exfalso;have hmem:x∈AdV .any l.toArray listed:=by rw[hr];simp
      obtain⟨h1,o,ho,_⟩:=mem_ready.1 hmem;have hx:x<l.length:=by simpa using (Ade.1 ho).1
      have h2:=(hon x).2 (by omega);have hx' :x<listed.size:=h2.lt;unfold On at h2;simp[hx']at h1 h2;rw[h1]at h2;cases h2
  intro fuel
  induction fuel with
  | zero=>
    intro m listed a w hsz hon hk hm hf hw;rw[AdR (by omega)]at hw;exact⟨noReady m listed hsz hon (by omega),hw⟩
  | succ fuel ih=>
    intro m listed a w hsz hon hk hm hf hw;by_cases hml:m=l.length
    · have hr:=noReady m listed hsz hon (by omega);rw[AdR (by omega)]at hw;exact⟨fun _=>hw,fun i hi=>by rw[hr]at hi;cases hi⟩
    · have hlt:m<l.length:=by omega
      have hoff:¬On listed m:=fun x=>by have:=(hon m).1 x;omega
      have hI:Inv l (fun _=> []) (fun _ _=>True) (fun _ _=>True) (fun _ _ _=>True) a listed a w:=
        ⟨hsz,fun i o ho hi e he hb=>(hon _).2 (by have:=g.back i o ho e he hb;have:=(hon i).1 hi;omega),rfl,rfl,fun _ _ _=>trivial,trivial,fun _ _=>rfl,fun _ _ _ _ _ _ _ _=>trivial⟩
      refine⟨fun hr=> ?_,fun i hi=> ?_⟩
      · exfalso;have ho:l[m]? =some l[m]:=AcS hlt;have:m∈AdV .any l.toArray listed:=by
          refine mem_ready.2 ⟨?_,l[m],by rw[AdG];exact ho,fun e he hb=>(hon _).2 (g.back m _ ho e he hb)⟩;have hm' :m<listed.size:=by omega
          unfold On at hoff;simp[hm']at hoff ⊢;exact hoff
        rw[hr]at this;cases this
      · obtain⟨h1,o,ho,hall⟩:=mem_ready.1 hi;have ho' :l[i]? =some o:=by simpa using ho
        have hil:i<l.length:=(Adc.1 ho').1;have hno:¬On listed i:=fun x=>by
          have hx:i<listed.size:=by omega
          unfold On at x;simp[hx]at h1 x;rw[h1]at x;cases x
        have him:i=m:=by
          by_cases h2:i<m
          · exact absurd ((hon i).2 h2) hno
          · by_cases h3:i=m
            · exact h3
            · exact absurd (hI.maskReady ho' (fun e he hb=>hall e he hb) (ht i (by omega) hil m hk (by omega))) hoff
        subst him;rw[Ad3 hlt]at hw;obtain rfl:l[i]=o:=by rw[AcS hlt]at ho';exact Adu ho'
        have nxt:∀a' w',wpList P l.toArray Q (l.drop (i+1)) a' w' →wpAny P .any l.toArray Q fuel (listed.setIfInBounds i true) a' w' :=fun a' w' hw' =>
          ih (i+1) _ a' w' (by simpa using hsz) (fun j=>by rw[on_set (by omega),hon j];omega) (by omega) (by omega) (by omega) hw'
        unfold wpOp;simp only[AdG,ho'];unfold wpList at hw;split at hw
        · rename_i hwt
          rw[if_pos hwt];exact hw.imp (fun h=>Oper.wp_mono nxt h) (fun h=>h)
        · rename_i hwt
          rw[if_neg hwt];exact nxt _ _ hw
end
def Rv(l:List Adb)(oe:Adb)(e:Nat):Bool:=
  (AdN l.length).all fun j=>match l[j]? with
    | some o=>Ae9 j e||(o.after.any (fun x=>Ad1 .any x&&x.on==e)||(oe.apart l.toArray o||((AL l []).getD e 0).testBit j))
    | none=>true
def Li(l:List Adb)(k e:Nat):Bool:=AeC e k&&(AdN l.length).all fun i=>AeC i k||(AdN i).all fun m=>Ae9 m e||((AL l []).getD i 0).testBit m
theorem Tt{l:List Adb}{k e:Nat}(h:Li l k e=true):e<k∧∀i,k≤i→i<l.length→∀m,m<i→m≠e→((AL l []).getD i 0).testBit m=true:=by
  unfold Li at h;rw[AdT]at h;refine⟨Ac2 h.1,fun i hi hl m hm hne=> ?_⟩;have h1:=Adv.1 h.2 i (by simpa using hl);rcases AeF _ _▸h1 with h2 | h2
  · have:=Ac2 h2;omega
  · have h3:=Adv.1 h2 m (by simpa using hm);rcases AeF _ _▸h3 with h4 | h4
    · exact absurd (Afo h4) hne
    · exact h4
section
variable {P : Adg} {l : List Adb} {Φ : Nat → Bm} {a0 : Act} {w0 : AcK} {Q : Afj → Act → AcK → Prop} {e k : Nat} {oe : Adb}
def Ju(P:Adg)(op:Op):Prop:=∀(ev:AcW→AcJ) dst ty pos af,(∃x,∀w:AcK,(execOp ev ⟨dst,op,ty,pos,af,none⟩).run P w = .ok (.value x) w)∨∀w:AcK,∃s,(execOp ev ⟨dst,op,ty,pos,af,none⟩).run P w = .halt (.stuck s) w
theorem Rw(c a b:AcW):Ju P (.pick c a b):=by
  intro ev dst ty pos af;cases hc:ev c with
  | bool x=>exact .inl ⟨if x then ev a else ev b,fun w=>by
      unfold execOp;simp only[hc,asBool];rfl⟩
  | _=>exact .inr fun w=>⟨_,by
      unfold execOp;simp only[hc,asBool];rfl⟩
theorem Oj{dst:Option Tmp}{op:Op}(hst:Ju P op){ty:AcR}{pos:String}{af:Array AdL}(he:l[e]? =some ⟨dst,op,ty,pos,af,none⟩){K:Act→AcK→Prop}{a:Act}{w:AcK} 
    (h:wpOp P l.toArray (fun _ _ _=>False) e K a w):∃x,Yields P l.toArray ⟨dst,op,ty,pos,af,none⟩ x a∧K (a.put dst x) w:=by
  unfold wpOp at h;simp only[AdG,he,Ad8,if_true]at h;rcases h with h | ⟨-,-,-,h⟩
  · unfold Afn at h;rcases hst a.eval dst ty pos af with ⟨x,hx⟩ | hx
    · rw[hx]at h;exact⟨x, .inl ⟨rfl,hx⟩,h⟩
    · obtain⟨s,hs⟩:=hx w;rw[hs]at h;exact h.elim
  · exact h.elim
theorem Xr(g:GY l a0.tmps.size)(hsel:Ah8 l.toArray=true){d:Tmp}{op:Op}(hso:Ju P op){ty:AcR}{pos:String}{af:Array AdL}(he:l[e]? =some ⟨some d,op,ty,pos,af,none⟩) 
    (hte:Li l k e=true) (hfr:Rv l ⟨some d,op,ty,pos,af,none⟩ e=true) (hk:k≤l.length) (hst:∀i,Stab Ext (Φ i))
    (hs:∀i o,l[i]? =some o→i<k→Gf P l (fun _=>Ext w0) (fun _=>Ext) Φ a0.tmps i o) (hQp:∀v c a w,Q (.panic c) (a.put (some d) v) w→Q (.panic c) a w)
    (hQ:∀listed a' w',(∀i,On listed i↔i<k)→Inv l (fun _=> []) (fun _=>Ext w0) (fun _ _=>True) Φ a0 listed a' w' →wpList P l.toArray Q (l.drop k) a' w'):
    ∀(fuel:Nat) (listed:Array Bool) (a:Act) (w:AcK),(listed.toList.filter (!·)).length=fuel→(∀i,On listed i→i<k)→e∉AdV .any l.toArray listed→Inv l (fun _=> []) (fun _=>Ext w0) (fun _ _=>True) Φ a0 listed a w→wpAny P .any l.toArray Q fuel listed a w:=by
  obtain⟨hek,hte⟩:=Tt hte;have ht:∀i,k≤i→i<l.length→∀m,k≤m→m<i→((AL l []).getD i 0).testBit m=true:=fun i hi hl m hkm hm=>hte i hi hl m hm (by omega);have hkl:CJ l (fun _=> [])=true:=by unfold CJ;simp
  have hC:∀n m,n<l.length→m<l.length→n≠m→((AL l []).getD n 0).testBit m=false→∀w w',Ext w0 w→Ext w w' →Ext w0 w' :=fun _ _ _ _ _ _ _ _ hc hr=>hc.trans hr;have hE:∀n listed (w w' :AcK),n<l.length→listed.size=l.length→¬On listed n→(∀i k,On listed i∨i=n→((AL l []).getD i 0).testBit k=true→On listed k)→True→Ext w w' →True:=fun _ _ _ _ _ _ _ _ _ _=>trivial;have hΦ:∀n i,n<l.length→i<l.length→i∉([]:List Nat)→i≠n→((AL l []).getD i 0).testBit n=false→∀v w w',Φ i v w→Ext w w' →Φ i v w' :=fun _ i _ _ _ _ _ v w w' =>hst i v w w';have hRr:∀(n:Nat) o (w:AcK),l[n]? =some o→o.guard.isSome=true→Ext w w:=fun _ _ w _ _=>Ext.refl w;intro fuel
  induction fuel using Ae0 with
  | _ fuel ih=>
  intro listed a w hf hoff hre h;by_cases hfull:∀i,i<k→On listed i
  · have hon:∀i,On listed i↔i<k:=fun i=>⟨hoff i,hfull i⟩;refine Ts g ht fuel k listed a w h.size hon (AcP _) hk ?_ (hQ listed a w hon h);have f:=Afb k listed.toList;rw[←f,AfX,AcQ]at hf;have p:(listed.toList.drop k).filter (!·)=listed.toList.drop k:=Agq.2 fun b hb=>by
      obtain⟨j,hj,rfl⟩:=Aeh hb;rw[List.getElem_drop];have hno:¬On listed (k+j):=fun x=>by have:=hoff _ x;omega
      rw[Ac5]at hj;have hlt:k+j<listed.size:=by rw[←Aew];omega
      unfold On at hno;simp[hlt]at hno;simp[hno]
    rw[p,Ac5]at hf;have hz:listed.toList.length=l.length:=by rw[Aew];exact h.size
    omega
  · have hunl:∀i,i<l.length→¬On listed i→listed.getD i true=false:=fun i hi hno=>by
      have hi' :i<listed.size:=by rw[h.size];exact hi
      unfold On at hno;simp[hi']at hno ⊢;exact hno
    have hlow:∃j,j<k∧j≠e∧¬On listed j:=by
      refine AdW fun hn=>hfull fun i hi=>AdW fun hx=> ?_;have hall:∀j,j<k→j≠e→On listed j:=fun j hj hje=>AdW fun hx=>hn ⟨j,hj,hje,hx⟩;have hie:i=e:=AdW fun hne=>hx (hall i hi hne);subst hie;refine hre (mem_ready.2 ⟨hunl i (by omega) hx,_,by rw[AdG];exact he,fun x hxm hb=> ?_⟩);have:=g.back i _ he x hxm hb;exact hall x.on (by omega) (by omega)
    obtain⟨j0,hj0,hj0e,hoff0⟩:=hlow;have hpos:∀(L:Array Bool) i,L.size=l.length→i<l.length→L.getD i true=false→∃m,(L.toList.filter (!·)).length=m+1∧((L.setIfInBounds i true).toList.filter (!·)).length=m:=fun L i hL hi hx=>by
      have hi' :i<L.size:=by omega
      have:=EY L.toList i (by simp[hi']at hx;simp[hi',hx]);exact⟨_,this.symm,by rw[Ae1]⟩
    obtain⟨f0,hf0,-⟩:=hpos listed j0 h.size (by omega) (hunl j0 (by omega) hoff0);obtain rfl:fuel=f0+1:=by omega
    refine⟨fun hr=> ?_,fun i hi=> ?_⟩
    · exfalso;have full:∀i,i<l.length→On listed i:=by
        intro i
        induction i using Ae0 with
        | _ i ih2=>
          intro hi;refine AdW fun hno=> ?_;have ho:l[i]? =some l[i]:=AcS hi;have:i∈AdV .any l.toArray listed:=mem_ready.2 ⟨hunl i hi hno,l[i],by rw[AdG];exact ho,fun x hx hb=>by
            have hlt:=g.back i _ ho x hx hb;exact ih2 x.on hlt (by omega)⟩
          rw[hr]at this;cases this
      exact hoff0 (full j0 (by omega))
    · have hie:i≠e:=fun x=>hre (x▸hi);obtain⟨h1,o,ho,hall0⟩:=mem_ready.1 hi;have ho' :l[i]? =some o:=by simpa using ho
      have hilt:i<l.length:=(Adc.1 ho').1;have hil:i<listed.size:=by rw[h.size];exact hilt
      have hno:¬On listed i:=by
        unfold On;simp[hil]at h1 ⊢;exact h1
      have hall:∀x∈o.after,Ad1 .any x=true→On listed x.on:=fun x hx hb=>hall0 x hx hb;have hik:i<k:=by
        by_cases h2:i<k
        · exact h2
        · exact absurd (h.maskReady ho' hall (hte i (by omega) hilt j0 (by omega) hj0e)) hoff0
      obtain⟨f1,hf1,hcnt⟩:=hpos listed i h.size hilt h1;obtain rfl:f1=f0:=by omega
      refine h.step g hkl hC hE hΦ hRr ho' hno hall (hs i o ho' hik) fun a' w' h' => ?_;have hoff' :∀j,On (listed.setIfInBounds i true) j→j<k:=fun j hx=>by
        rcases(on_set hil).1 hx with rfl | h3
        · exact hik
        · exact hoff j h3
      by_cases hre' :e∈AdV .any l.toArray (listed.setIfInBounds i true)
      · obtain⟨q1,oe',hoe,hq⟩:=mem_ready.1 hre';have hoe' :l[e]? =some oe' :=by simpa using hoe
        obtain rfl:=Adu (he.symm.trans hoe');have helt:e<l.length:=by omega
        have hel:e<(listed.setIfInBounds i true).size:=by rw[h'.size];exact helt
        have hnoe:¬On (listed.setIfInBounds i true) e:=by
          unfold On;rw[Ady]at q1 ⊢;rw[Afw hel]at q1 ⊢;simp only[AdI]at q1 ⊢;rw[q1];decide
        have hw:=h'.step g hkl hC hE hΦ hRr he hnoe (fun x hx hb=>hq x hx hb) (hs e _ he hek) (K:=fun a2 w2=>Inv l (fun _=> []) (fun _=>Ext w0) (fun _ _=>True) Φ a0 ((listed.setIfInBounds i true).setIfInBounds e true) a2 w2) (Q:=fun _ _ _=>False) (fun _ _ hx=>hx);obtain⟨x,hy,hK⟩:=Oj hso he hw;obtain⟨f2,hf2,hcnt2⟩:=hpos _ e h'.size helt q1;obtain rfl:f1=f2+1:=by omega
        refine wpAny_first hoe (Region.noSelect_spec hsel) (hQp x) f2 _ a' w' (fun j oj hoj hje hjun hjno=> ?_) hre' hy (ih f2 (by omega) _ _ _ hcnt2 (fun j hx=> ?_) (fun hx=> ?_) hK)
        · have hoj' :l[j]? =some oj:=by simpa using hoj
          have hjl:j<l.length:=(Adc.1 hoj').1;have hfj:=Adv.1 hfr j (by simpa using hjl);rw[hoj']at hfj;simp only[AeF]at hfj;rcases hfj with h3 | h3 | h3 | h3
          · exact absurd (Afo h3) hje
          · obtain⟨y,hy1,hy2⟩:=Array.any_eq_true'.1 h3;simp only[AdT,beq_iff_eq]at hy2;exact absurd hy2.2 (hjno y hy1 hy2.1)
          · exact h3
          · have hon:=h'.maskReady he (fun x hx hb=>hq x hx hb) h3;have hjl' :=hon.lt;unfold On at hon;rw[Ady,Afw hjl']at hon hjun;simp only[AdI]at hon hjun;rw[hon]at hjun;cases hjun
        · rcases(on_set hel).1 hx with rfl | h3
          · exact hek
          · exact hoff' j h3
        · have:=(mem_ready.1 hx).1;simp[hel]at this
      · exact ih f1 (by omega) _ _ _ hcnt hoff' hre' h'
end
section
variable {P : Adg} {n : Nat} {ρ : Ad} {w : AcK} {Q : BE}
theorem LO{l r:List Adb}(e k0:Nat)(Φs:List Bm){id:Nat}(hm:P.follows .mixedOrders=true)(ds:List Tmp)(hg:Cw l n=true){d:Tmp}{op:Op}(hso:Ju P op){ty:AcR}{pos:String}{af:Array AdL}(he:l[e]? =some ⟨some d,op,ty,pos,af,none⟩)(hsel:Ah8 l.toArray=true) 
    (hn:Li l k0 e=true) (hfr:Rv l ⟨some d,op,ty,pos,af,none⟩ e=true) (haf:af.any (fun x=>Ad1 .any x)=true) (f:AgI Φs.length k0=true) (hds:slotsW l=ds) (hr:(l.drop k0)=r) (hlt:AeC k0 l.length=true) (hst:AllStab Ext Φs)
    (hQp:∀c ρ ρ' w,Q (.panic c) ρ w→Q (.panic c) ρ' w)
    (hs:StepsFC P l k0 (fun _=>Ext w) (fun _=>Ext) (AQ Φs) ρ 0 l)
    (hQ:∀(ρ' :Ad) w1,Ext w w1→EndF ds ρ ρ' →Bd l (fun _=> []) (AQ Φs) ρ' w1 ds→Cf P l.toArray n Q r ρ' w1):B1 P n (.region id l.toArray true) Q ρ w:=by
  intro a ha;obtain⟨T,df⟩:=a;have hz:T.size=n:=ha.size;subst hz;have b:k0<l.length:=Ac2 hlt;have g:=Gb hg;have hno0:∀i,¬On (Aeq l.toArray.size false) i:=fun i h=>by
    unfold On at h;rw[Ady,Aea]at h;split at h <;> simp at h
  refine wp_region_any hm (Xr (a0:= { tmps:=T,defers:=df }) (w0:=w) (Φ:=AQ Φs) g hsel hso he hn hfr (AiT b) (fun i=>hst.get Φs i) (fun i o ho hi=> ?_) (fun v c a' w' hx=> ?_) (fun listed a' w' hon h=> ?_) _ _ _ _ (by simp) (fun i h=>absurd h (hno0 i)) ?_ ?_)
  · have hst:=StepsFC.get l 0 hs i o ho (by omega);rw[Ad4]at hst;have h2:=StepsF.ok (P:=P) (l:=l) (C:=fun _=>Ext w) (R:=fun _=>Ext) (Φ:=AQ Φs) (T:=T) ha.get [o] i ⟨hst,trivial⟩;exact h2.1
  · obtain⟨ρ',hf,hq⟩:=hx;exact⟨fun t=>a'.tmps.getD t undef,⟨by have:=hf.size;simpa [AhH] using this,by have:=hf.defers;simpa [AhH] using this,fun _=>rfl⟩,hQp _ _ _ _ hq⟩
  · have hw:∀d k,Dc l d l.length=some k→(AdN l.length).all (fun n=> !([]:List Nat).contains k)=true→AQ Φs k (a'.tmps.getD d undef) w' :=fun d k hk hall=>by
      obtain⟨h1,⟨o,ho,hd'⟩,h3⟩:=DV _ hk;by_cases hkL:k0≤k
      · have e:AQ Φs k=fun _ _=>True:=by
          have:=Ac2 f;unfold AQ;rw[AcO,AdY (by omega)];rfl
        rw[e];trivial
      exact h.new d k o ho hd' ((hon k).2 (by omega)) (fun k' o' hkk ho' hd'' _=>h3 k' o' hkk (Adc.1 ho').1 ho' hd'') (fun n hn=>by simp)
    have hget:∀t,a'.tmps.getD t undef=if t∈ds then a'.tmps.getD t undef else ρ t:=fun t=>by
      by_cases hn:t∈ds
      · rw[if_pos hn]
      · rw[if_neg hn,←ha.get];exact h.old t fun k o ho hd _=>hn (by
          rw[←hds];unfold slotsW;rw[AfR,AeI];exact⟨o,AdX ho,hd⟩)
    have hcl:=h.cls k0 b (fun x=>by have:=(hon k0).1 x;omega);have hend:EndF ds ρ (fun t=>a'.tmps.getD t undef):=⟨fun t ht=>by rw[hget t,if_neg (by simpa using ht)]⟩;have:=hQ (fun t=>a'.tmps.getD t undef) w' hcl hend (ED hw ds);rw[hr];exact this a' ⟨h.tmps,h.defers.trans ha.defers,fun t=>rfl⟩
  · intro hx;obtain⟨-,o,ho,hall⟩:=mem_ready.1 hx;obtain rfl:=Adu (he.symm.trans (by simpa using ho));obtain⟨x,j,m⟩:=Array.any_eq_true'.1 haf;exact hno0 _ (hall x j m)
  · exact⟨Agd,fun i o _ h=>absurd h (hno0 i),rfl,rfl,fun n hn _=>(AdC _ _).drew,trivial,fun t _=>rfl,fun t k o _ _ h=>absurd h (hno0 k)⟩
theorem Fq{l r:List Adb}(e k0:Nat)(Φs:List Bm){id:Nat}(hm:P.follows .mixedOrders=true)(ds:List Tmp)(hg:Cw l n=true){d:Tmp}{o1 o2 o3:AcW}{ty:AcR}{pos:String}{af:Array AdL}(he:l[e]? =some ⟨some d, .pick o1 o2 o3,ty,pos,af,none⟩)(hsel:Ah8 l.toArray=true) 
    (hn:Li l k0 e=true) (hfr:Rv l ⟨some d, .pick o1 o2 o3,ty,pos,af,none⟩ e=true) (haf:af.any (fun x=>Ad1 .any x)=true) (a:AgI Φs.length k0=true) (hds:slotsW l=ds) (hr:(l.drop k0)=r) (hlt:AeC k0 l.length=true) (hst:AllStab Ext Φs)
    (hQp:∀c ρ ρ' w,Q (.panic c) ρ w→Q (.panic c) ρ' w)
    (hs:StepsFC P l k0 (fun _=>Ext w) (fun _=>Ext) (AQ Φs) ρ 0 l)
    (hQ:∀(ρ' :Ad) w1,Ext w w1→EndF ds ρ ρ' →Bd l (fun _=> []) (AQ Φs) ρ' w1 ds→Cf P l.toArray n Q r ρ' w1):B1 P n (.region id l.toArray true) Q ρ w:=
  LO e k0 Φs hm ds hg (Rw _ _ _) he hsel hn hfr haf a hds hr hlt hst hQp hs hQ
end
open Go.Shelf Go.RowKit
def Tu:Af7:=⟨fun | 137=>126 | 217=>170 | 266=>209 | n=>n,fun | 9=>9 | 5=>5 | 3=>3 | n=>n,fun | n=>n⟩
theorem Y2:Go.Proofs.Lays.n137 AcM Tu:= {
  mixed:=by kernel_rfl
  f137:=Tryz.func126.trans (congrArg some (by kernel_rfl))
  f217:=Tryz.func170.trans (congrArg some (by kernel_rfl))
  f266:=Tryz.func209.trans (congrArg some (by kernel_rfl))
  t3:=AhX
  a3:=Ai6
  z3:=Ai1
  v3:=Ah6
  t5:=Agi
  a5:=Ai7
  z5:=Ai2
  v5:=Ah7
  t9:=Afh
  a9:=Agp
  z9:=Af8
  v9:=Afp }
theorem Lj(s:ByteArray)(c:Int)(w:AcK):
    Calls AcM 126 #[.string s, .int .u8 c] w fun e w' =>e = .returned (.int .i64 (Ahx s.data.toList c.toNat.toUInt8))∧w' =w:=Any.strings_IndexByte Y2 s c w
theorem Rx(w:AcK)(c:UInt8):Calls AcM 126 #[St ([48,49,50,51,52,53,54,55,56,57,97,98,99,100,101,102]:List UInt8),B8 c] w fun e w' =>e = .returned (.int .i64 (Fj c))∧w' =w:=by
 have h:=Lj (⟨([48,49,50,51,52,53,54,55,56,57,97,98,99,100,101,102]:List UInt8).toArray⟩:ByteArray) (c.toNat:Int) w;have e:Ahx (⟨([48,49,50,51,52,53,54,55,56,57,97,98,99,100,101,102]:List UInt8).toArray⟩:ByteArray).data.toList ((c.toNat:Int).toNat.toUInt8)=Fj c:=by
  rw[←U5 c];simp[digs]
 rw[e]at h;exact h
theorem Tv{s:List UInt8}{i k1 k2:Nat}(h1:dg (s.getD (2*i) 0)=some k1)(h2:dg (s.getD (2*i+1) 0)=some k2)(_:k2<16):Fe s i=AdQ (16*k1+k2):=by
 unfold Fe;rw[h1,h2];rfl
theorem Tw{s:List UInt8}{i k1 k2:Nat}(h1:dg (s.getD (2*i) 0)=some k1)(h2:dg (s.getD (2*i+1) 0)=some k2)(hn:k2<16):Fe s i=AdQ (k1*2^4|||k2):=by
 rw[Tv h1 h2 hn,KD _ _ _ hn,Agz]
theorem Xs{s:List UInt8}{i k1 k2:Nat}(h:∀j,j<i→FP s j=true)(h1:dg (s.getD (2*i) 0)=some k1)(h2:dg (s.getD (2*i+1) 0)=some k2):∀j,j<i+1→FP s j=true:=fun j hj=>by
 by_cases he:j=i
 ·subst he;unfold FP;rw[h1,h2];rfl
 ·exact h j (by omega)
theorem Ry:Plain AcM 126:=fun _ _=>by kernel_rfl
theorem Lk:Plain AcM 125:=fun _ _=>by kernel_rfl
theorem Mw(w:AcK)(b:Nat)(s:List UInt8)(hb:w.heap[b]? =some (.cells ([St s]:List AcJ).toArray 9 (0,0)))(i:Nat)(hi:i<s.length):
  Calls AcM 125 #[NI i,PQ b 0] w fun e w' =>e = .returned (.int .i64 (Fj (s.getD i 0)))∧Ext w w' :=by
 refine gG (args:= [NI i,PQ b 0]) Tryz.func125 rfl 8 rfl rfl ?_;have hE:=Ext.refl w;refine gS (Zu PO rfl rfl (cellAt hb rfl) (gS (Aa1 (l:=s) (i:=i) PO rfl rfl (hi) (gS (Zx Ry rfl rfl ((Rx _ (s.getD (i) 0)).mono ?_))))));rintro e a ⟨rfl,hq⟩;refine⟨_,rfl,?_⟩;refine Bb rfl (vr (.int .i64 (Fj (s.getD (i) 0):Int)) rfl) ?_;have hE:=hE.trans (show Ext w a from by rw[hq];exact Ext.refl _);exact⟨rfl,hE⟩

theorem Mx(w:AcK)(s:List UInt8)(hs:s.length≤9223372036854775807):
  Calls AcM 76 #[St s] w fun e w' =>e = .returned (.tuple #[AB ((A4 s).1), .bool (A4 s).2])∧Ext w w' :=by
 refine gG (args:= [St (s)]) Tryz.func76 rfl 42 rfl rfl ?_;have hE:=Ext.refl w;refine gS (Aaf (vr (St (s)) rfl) rfl fun g w3 bb ak av bc=> ?_);have f:=ak;clear ak;have bd:g<w3.heap.size:=by omega
 refine gS (Yk.alloc Ur fun t ae aw al af be=> ?_);have k:=Ext.refl w3;have hE:=hE.trans av;have u:=hE.size;have c:=al;clear al;have bf:t<ae.heap.size:=by omega
 refine gS (Yk.alloc Ur fun ag ax ah am n bg=> ?_);have m:=Ext.refl ae;have hE:=hE.trans af;have k:=k.trans af;have ay:=hE.size;have az:=k.size;have an:=am;clear am;have bh:ag<ax.heap.size:=by omega
 have bi:=As (bl f) aw;have f:=eb af f;have bj:=As (bl f) ah;have f:=eb n f;refine gS (Zu PO rfl rfl (cellAt f rfl) (gS (Aam (l:=s) PO rfl (gS (Zv (a:=(s.length:Nat)) (b:=(64:Nat)) rfl rfl (AY _ _ _ _) ?_)))));refine cD rfl (fun h64=> ?_) fun h64=> ?_
 ·have hun:=Kh (s:=s) (fun h=>h64 h.1);have a0:=As (bl c) ah;have c:=eb n c;refine gS (Yk.run (v:=AB (AcX 32 0)) (by kernel_rfl) (gS (Zy (vr (PQ t 0) rfl) (vr (AB (AcX 32 0)) rfl) c (by first | rfl | (rw[Ac6,AcZ,Ac7];rfl)) (by rw[Ac6,AcZ,Ac7];exact R4) (Af _) fun bk ao a1 bm=> ?_)));clear c;have c:=ao;clear ao;have bn:=bl c;have hE:=hE.trans n;have hE:=Ab hE a1 (AcN u (by omega));refine JE rfl (ResF.row rfl c Wq rfl (by rw[Ac6,AcZ];first | (rw[Ac7];exact R4) | (rw[Dv _ _ (by omega)];exact R4))) (vr (.bool (false)) rfl) ?_;refine⟨?_,hE⟩;rw[hun]
 have a2:s.length=64:=by omega
 have a0:=As (bl c) ah;have c:=eb n c;have hE:=hE.trans n;have k:=k.trans n;have m:=m.trans n;refine gS (Z8 (vs:= #[PQ g 0]) (by simp only[Ads,Ado,AdA];exact congrArg Aec (M9 (vr (PQ g 0) rfl))) (gL (fun(ρ:Ad) (wz:AcK)=>∃i:Nat,ρ 0=(St (s):AcJ)∧ρ 1=(PQ g 0:AcJ)∧ρ 2=(PQ t 0:AcJ)∧ρ 4=(PQ ag 0:AcJ)∧ρ 5=(.func (.func 125) #[] #[PQ g 0]:AcJ)∧ρ 14=(NI i:AcJ)∧Ext w wz∧wz.heap[g]? =some (.cells (([St (s)]:List AcJ)).toArray 9 (0,0))∧Ext w3 wz∧wz.heap[t]? =some (.cells (AcL (AcX 32 0)).toArray 33 (0,0))∧Ext ae wz∧wz.heap[ag]? =some (.cells (AcL (pre s i)).toArray 33 (0,0))∧(i≤32)∧(∀j,j<i→FP s j=true)∧True) (fun ρ _=>32-(intOf (ρ 14)).toNat) ⟨0,rfl,rfl,rfl,rfl,rfl,rfl,hE,f,k,c,m,A1 an (rfl),Adm _,fun j hj=>by omega,trivial⟩ ?_));clear an;clear hE f c;rintro a3 bo ⟨i,T0,T1,o,T4,T5,p,hE,f,k,c,m,hb36l,hi,hall,-⟩;have q14:=p;have hpl:=Dv s i hi;refine gS (Zv (a:=(i:Nat)) (b:=(32:Nat)) p rfl (AI _ _ _ _) ?_);refine cD rfl (fun a6=> ?_) fun a6=> ?_
 ·refine gS (Zw (xv:=NI 2) (yv:=NI i) rfl p rfl (Cq _ _ _ (by omega)) (gS (Aav Lk (caps:= #[PQ g 0]) T5 #[NI ((2)*(i)),PQ g 0] (by simp only[Ads,Ado,AdA,AeP,AdP,AdS];exact congrArg Aec (FA rfl rfl)) ((Mw _ g s f ((2)*(i)) (by omega)).mono ?_))));rintro e bp ⟨rfl,y⟩;refine⟨_,rfl,?_⟩;have f:=eb y f;refine gS (Zw (xv:=NI 2) (yv:=NI i) rfl p rfl (Cq _ _ _ (by omega)) (gS (Zw (xv:=NI ((2)*(i))) (yv:=NI 1) rfl rfl rfl (Ag _ _ _ (by omega)) (gS (Aav Lk (caps:= #[PQ g 0]) T5 #[NI (((2)*(i))+(1)),PQ g 0] (by simp only[Ads,Ado,AdA,AeP,AdP,AdS];exact congrArg Aec (FA rfl rfl)) ((Mw _ g s f (((2)*(i))+(1)) (by omega)).mono ?_))))));rintro e bq ⟨rfl,z⟩;refine⟨_,rfl,?_⟩;obtain⟨x1,aa⟩:∃x,x=dg (s.getD (2*i) 0):=⟨_,rfl⟩;obtain⟨x2,ab⟩:∃x,x=dg (s.getD (2*i+1) 0):=⟨_,rfl⟩;rcases x1 with _ | k1
  ·have hno:FP s i=false:=by unfold FP;rw[←aa];rfl
   have q:=(vr (.int .i64 (Fj (s.getD (2*i) 0):Int)) rfl).trans (show AeJ .i64 (Fj (s.getD (2*i) 0)) = .int .i64 (-1) by unfold Fj;rw[←aa]);have hZ1:=y.trans z;have c:=eb hZ1 c;refine gS (Zv q rfl (FV _ .i64 (-1:Int) ((0:Nat):Int)) (kT (by decide) (gS (ZE rfl rfl (cT rfl (gS (Yk.run (v:=AB (AcX 32 0)) (by kernel_rfl) (gS (Zy o (vr (AB (AcX 32 0)) rfl) c (by first | rfl | (rw[Ac6,AcZ,Ac7];rfl)) (by rw[Ac6,AcZ,Ac7];exact R4) (Af _) fun br ap a7 bs=> ?_)))))))));clear m;clear c;have c:=ap;clear ap;have bt:=bl c;have hun:=Kh (s:=s) (fun h=>by have:=Adv.1 h.2 i (by simp;omega);rw[hno]at this;cases this);have hE:=hE.trans hZ1;have hE:=Ab hE a7 (AcN u (by omega));refine JE rfl (ResF.row o c Wq rfl (by rw[Ac6,AcZ];first | (rw[Ac7];exact R4) | (rw[Dv _ _ (by omega)];exact R4))) (vr (.bool (false)) rfl) ?_;refine⟨?_,hE⟩;rw[hun]
  have hd1:=aa.symm;have bu:=Ww hd1;have q:=(vr (.int .i64 (Fj (s.getD (2*i) 0):Int)) rfl).trans (show AeJ .i64 (Fj (s.getD (2*i) 0))=NI k1 by unfold Fj;rw[←aa]);rcases x2 with _ | k2
  ·have hno:FP s i=false:=by unfold FP;rw[←ab];simp
   have T8:=(vr (.int .i64 (Fj (s.getD (2*i+1) 0):Int)) rfl).trans (show AeJ .i64 (Fj (s.getD (2*i+1) 0)) = .int .i64 (-1) by unfold Fj;rw[←ab]);have hZ2:=y.trans z;have c:=eb hZ2 c;refine gS (Zv (a:=(k1:Nat)) (b:=(0:Nat)) q rfl (AI _ _ _ _) (kF (by omega) (gS (Zv T8 rfl (FV _ .i64 (-1:Int) ((0:Nat):Int)) (kT (by decide) (gS (ZH rfl rfl (cT rfl (gS (Yk.run (v:=AB (AcX 32 0)) (by kernel_rfl) (gS (Zy o (vr (AB (AcX 32 0)) rfl) c (by first | rfl | (rw[Ac6,AcZ,Ac7];rfl)) (by rw[Ac6,AcZ,Ac7];exact R4) (Af _) fun bv aq a8 bw=> ?_))))))))))));clear m;clear c;have c:=aq;clear aq;have bx:=bl c;have hun:=Kh (s:=s) (fun h=>by have:=Adv.1 h.2 i (by simp;omega);rw[hno]at this;cases this);have hE:=hE.trans hZ2;have hE:=Ab hE a8 (AcN u (by omega));refine JE rfl (ResF.row o c Wq rfl (by rw[Ac6,AcZ];first | (rw[Ac7];exact R4) | (rw[Dv _ _ (by omega)];exact R4))) (vr (.bool (false)) rfl) ?_;refine⟨?_,hE⟩;rw[hun]
  have hd2:=ab.symm;have a9:=Ww hd2;have T8:=(vr (.int .i64 (Fj (s.getD (2*i+1) 0):Int)) rfl).trans (show AeJ .i64 (Fj (s.getD (2*i+1) 0))=NI k2 by unfold Fj;rw[←ab]);have hZ3:=y.trans z;have hb36l:=eb hZ3 hb36l;refine gS (Zv (a:=(k1:Nat)) (b:=(0:Nat)) q rfl (AI _ _ _ _) (kF (by omega) (gS (Zv (a:=(k2:Nat)) (b:=(0:Nat)) T8 rfl (AI _ _ _ _) (kF (by omega) (gS (ZH rfl rfl (cF rfl (gS (Zw (xv:=NI k1) (yv:= .int .u64 ((4:Nat):Int)) q rfl rfl (Jl _ _ _ _ (by omega) (by omega)) (gS (Zw (xv:=NI ((k1)*2^(4))) (yv:=NI k2) rfl T8 rfl (KC _ _ _ (by omega) (by omega)) (gS (Z4 Uo u5 rfl (Hc (((k1)*2^(4))|||(k2))) (gS (ZJ (i:=i) Wq Qq T4 p (by omega) (gS (Aaw (i:=i) (v:=AdQ (((k1)*2^(4))|||(k2))) rfl rfl hb36l (by rw[hpl];omega) X7 fun bz ar r b0=> ?_))))))))))))))))));clear hb36l;have hb36l:=ar;clear ar;have b1:=bl hb36l;have hE:=hE.trans hZ3;have hE:=Ab hE r (AcN ay (by omega));have k:=k.trans hZ3;have k:=Ab k r (AcN az (by omega));have c:=eb hZ3 c;have c:=kb r c (by omega);have m:=m.trans hZ3;have m:=Ab m r (AcN (AcP _) (by omega));have f:=eb z f;have f:=kb r f (by omega);refine gS (Zw (xv:=NI i) (yv:=NI 1) p rfl rfl (Ag _ _ _ (by omega)) (gK (Adr ⟨i+1,T0,T1,o,T4,T5,rfl,hE,f,k,c,m,A1 hb36l (congrArg AcL (by rw[←U6 s i (by omega),Tw hd1 hd2 a9])),by omega,Xs hall hd1 hd2,trivial⟩ ?_)));show 32-(intOf (NI ((i)+(1)))).toNat<32-(intOf (a3 14)).toNat;rw[q14];simp only[intOf,Ac0];omega
 have hi32:i=32:=by omega
 have hun:A4 s=(pre s i,true):=by rw[hi32,Xg];exact Mq a2 (fun j hj=>hall j (by omega))
 refine gS (Zz T4 hb36l Wq rfl (by rw[Ac6,AcZ,Dv _ _ (by omega)];exact R4) (gS (Zy o (vr (AB (pre s i)) rfl) c (by first | rfl | (rw[Ac6,AcZ,Dv _ _ (by omega)];rfl)) (by rw[Ac6,AcZ,Dv _ _ (by omega)];exact R4) (Af _) fun b2 au ba b3=> ?_)));clear m;clear c;have c:=au;clear au;have b4:=bl c;have hE:=Ab hE ba (AcN u (by omega));refine JE rfl (ResF.row o c Wq rfl (by rw[Ac6,AcZ];first | (rw[Ac7];exact R4) | (rw[Dv _ _ (by omega)];exact R4))) (vr (.bool (true)) rfl) ?_;refine⟨?_,hE⟩;rw[hun]

def Ek(l:List Bs):Prop:=l.Pairwise fun a b=>Adj a b<0
theorem Ys{a:Int}(h:a≤0)(h2:a≠0):a<0:=by omega
theorem getD_mem'{l:List Bs}{i:Nat}(hi:i<l.length):l.getD i []∈l:=getD_mem [] hi
theorem El{l:List Bs}{i:Nat}(hi:i<l.length):l.getD i []=l[i]:=by rw[AcO,AcS hi];rfl
theorem Yt{l:List Bs}(h:C8 l){i j:Nat}(hij:i<j)(hj:j<l.length):Adj (l.getD i []) (l.getD j [])≤0:=by
  rw[El (by omega),El hj];exact Aen.1 h i j (by omega) hj hij
theorem Xt{l:List Bs}(h:Ek l){i j:Nat}(hij:i<j)(hj:j<l.length):Adj (l.getD i []) (l.getD j [])<0:=by
  rw[El (by omega),El hj];exact Aen.1 h i j (by omega) hj hij
theorem Tx{l:List Bs}{i:Nat}{x:Bs}(h:x∈l.take i):∃j,j<i∧j<l.length∧x=l.getD j []:=by
  obtain⟨j,hj,rfl⟩:=Agf.1 h;rw[Ac8]at hj;exact⟨j,by omega,by omega,by rw[AgO,El]⟩
theorem My{l:List Bs}{i:Nat}{x:Bs}(hi:i<l.length):x∈l.take (i+1)↔x∈l.take i∨x=l.getD i []:=by
  rw[Adi hi,Adf,AcY,El hi]
section
variable {m o : List Bs} {i : Nat}
theorem Ok(hm:C8 m)(hi:i<m.length)(hS:Ek o)(hmem:∀x,x∈o↔x∈m.take i)(h:o.length=0∨o.getD (o.length-1) []≠m.getD i []):Ek (o++ [m.getD i []]):=by
  refine Aee.2 ⟨hS,by simp,fun a ha b hb=> ?_⟩;rw[AcY.1 hb];have hle:∀c∈o,Adj c (m.getD i [])≤0:=fun c hc=>by
    obtain⟨j,h1,h2,rfl⟩:=Tx ((hmem c).1 hc);exact Yt hm h1 hi
  refine Ys (hle a ha) fun e=> ?_;have e:=HE e;obtain⟨k,hk,hka⟩:=Agf.1 ha;rcases h with h | h
  · omega
  · by_cases hkl:k=o.length-1
    · refine h ?_;rw[El (by omega),←e,←hka]
      congr 1
      omega
    · have h1:=Xt hS (i:=k) (j:=o.length-1) (by omega) (by omega);rw[El hk,hka,e]at h1;have h2:=hle _ (getD_mem' (l:=o) (i:=o.length-1) (by omega));have h3:=He (m.getD i []) (o.getD (o.length-1) []);omega
theorem Mz(hi:i<m.length)(hmem:∀x,x∈o↔x∈m.take i):∀x,x∈o++ [m.getD i []]↔x∈m.take (i+1):=fun x=>by
  rw[My hi,Adf,AcY,hmem]
theorem Ty(hi:i<m.length)(hmem:∀x,x∈o↔x∈m.take i)(h0:¬o.length=0)(h:¬o.getD (o.length-1) []≠m.getD i []):∀x,x∈o↔x∈m.take (i+1):=fun x=>by
  rw[My hi,←hmem];constructor
  · exact .inl
  · rintro(h1 | rfl)
    · exact h1
    · rw[←AgN.1 h];exact getD_mem' (by omega)
end
theorem setK_lg42:∀(cs:Array AcJ),cs.size=32→∀w:AcK,(Adt 42 1 #[(0, .agg cs)]).run AcM w = .ok (.slice (some ⟨w.heap.size,0,none⟩) 1 1) (w.alloc (.cells cs 33))
 | ⟨[c0,c1,c2,c3,c4,c5,c6,c7,c8,c9,c10,c11,c12,c13,c14,c15,c16,c17,c18,c19,c20,c21,c22,c23,c24,c25,c26,c27,c28,c29,c30,c31]⟩,_,w=>Us c0 c1 c2 c3 c4 c5 c6 c7 c8 c9 c10 c11 c12 c13 c14 c15 c16 c17 c18 c19 c20 c21 c22 c23 c24 c25 c26 c27 c28 c29 c30 c31 w
theorem Jv(w:AcK)(v:AcJ)(l:List Bs)(hr:RG 32 AcL w v l)(hl:l.length≤100000):
  Calls AcM 23 #[v] w fun e w' =>∃v' o,e = .returned v' ∧OG w.heap.size 33 32 AcL w' v' o∧Ek o∧(∀x,x∈o↔x∈l)∧o.length≤l.length∧Ext w w' :=by
 refine gG (args:= [v]) Tryz.func23 rfl 32 rfl rfl ?_;have hE:=Ext.refl w;refine gS (ZA Uz rfl ((NE _ v l (by omega) hr).mono ?_));rintro e k ⟨v5,rfl,n,au⟩;refine⟨_,rfl,?_⟩;have n:=ZG n;obtain⟨m,hm⟩:∃m,m=AO l:=⟨_,rfl⟩;rw[←hm]at n;have hml:m.length=l.length:=by rw[hm,GH]
 have hma:C8 m:=by rw[hm];exact GG l
 have hmm:∀x,x∈m↔x∈l:=fun x=>by rw[hm];exact(sortB_perm l).mem_iff
 refine gS (ZI NB (ZC n rfl) ?_);have c:=Ext.refl k;have hE:=hE.trans au;have z:=hE.size;have hrow0:OG k.heap.size 33 32 AcL k (AcU none 0 0) ([]:List Bs):=OG.nil _ _ _ _ _;refine gL (fun(ρ:Ad) (wz:AcK)=>∃i:Nat,∃o:List Bs,∃vo:AcJ,ρ 0=(v:AcJ)∧ρ 2=((AcU none 0 0):AcJ)∧ρ 7=(v5:AcJ)∧ρ 8=(NI m.length:AcJ)∧ρ 9=(NI i:AcJ)∧ρ 3=(vo:AcJ)∧Ext w wz∧Ext k wz∧OG k.heap.size 33 32 (AcL) wz vo (o)∧(i≤m.length)∧(Ek o)∧(∀x,x∈o↔x∈m.take i)∧(o.length≤i)∧True) (fun ρ _=>m.length-(intOf (ρ 9)).toNat) ⟨0,[],(AcU none 0 0),rfl,rfl,rfl,rfl,rfl,rfl,hE,c,Bc hrow0 (rfl),Adm _,AeN,(fun x=>by simp),AcP _,trivial⟩ ?_;clear hrow0;clear hE;rintro aa av ⟨i,o,vo,T0,T2,t,u,p,h,hE,c,hr_vo,hi,hS,hmem,hol,-⟩;have q9:=p;refine gS (Zv (a:=(i:Nat)) (b:=(m.length:Nat)) p u (AI _ _ _ _) ?_);refine cD rfl (fun ah=> ?_) fun ah=> ?_
 ·have hlt:i<m.length:=ah;have j:(AcL (m.getD (i) ([]:List UInt8))).length=32:=(RG.elem (n.keep c) ([]:List UInt8) (by omega));refine gS (ZO NB Sj (by decide) ([]:List UInt8) (ZC (n.keep c) t) p (by omega) fun a8 ai=>(gS (ZS (ZT ai rfl) Wq rfl (by rw[j];exact R4) (gS (Yk.alloc Ur fun ad aw a9 aj ax ba=> ?_)))));have g:=Ext.refl av;have bb:=hE.size;have bc:=c.size;have ak:OB vo ad:=A3 hr_vo.2 (by omega);have f:=aj;clear aj;have bd:ad<aw.heap.size:=by omega
  refine gS (Zy (vr (PQ ad 0) rfl) (vr (AB (m.getD (i) ([]:List UInt8))) rfl) f (by exact Bn (AD (j)) Ac7) (by exact Ac (AD (j))) (Af _) fun be al ay bf=> ?_);clear f;have f:=al;clear al;have bg:=bl f;clear ai;have g:=g.trans ax;have g:=Ab g ay (AcN (AcP _) (by omega));have c:=c.trans g;have hxl:(m.getD i []).length=32:=AD ((n.keep c).1 _ (getD_mem [] hlt));by_cases h0:o.length=0
  ·refine CD [0,1,2,3,4,5,6,7,8,9,10,11,12] [] [] fun bh ae=> ?_;have g:=g.trans ae;have hr_vo:=hr_vo.keep g;have f:=eb ae f;refine ys (ZI NB (ZC (ZG hr_vo) h) zz) (ys (Zv (a:=(o.length:Nat)) (b:=(0:Nat)) rfl rfl (AF _ _ _ _) zz) (kT (h0) (ys (ZE rfl rfl zz) (cT rfl (gS (Zz rfl f Wq rfl (by exact Ac (AD (j))) (gS (Z2 (a:=(m.getD (i) ([]:List UInt8))) (enc:=AcL) (vr (AB (m.getD (i) ([]:List UInt8))) rfl) (by rw[AcZ];exact(AD (j))) setK_lg42 fun az a0 am y=> ?_))))))));have c:=c.trans (ae.trans y);have hr_vo:=hr_vo.keep y;refine gS (ZM _ _ k.heap.size _ 32 NB pk6_ig33.choose_spec.1 pk6_ig33.choose_spec.2 NB (o) ([(m.getD (i) ([]:List UInt8))]) (OG.of hr_vo h) (ZC am (vr az rfl)) (fun _ _=>Af _) (by simp only[Adh,Adp];omega) (by simp only[Adh,Adp];omega) c.size fun an a1 a2 q=> ?_);have q:Grew a0 a1 vo an:= .eqv h q;have f:=eb y f;have g:=g.trans y;have hE:=hE.trans g;have hE:=Aq hE q hr_vo.2 z;have c:=Aq c q hr_vo.2 (AcP _);have f:=Ao f q ak;clear am;clear hr_vo;have hq:o.length=0∨o.getD (o.length-1) []≠m.getD i []:= .inl h0;refine gS (Zw (xv:=NI i) (yv:=NI 1) p rfl rfl (Ag _ _ _ (by omega)) (gK (Adr ⟨i+1,o++ [m.getD i []],an,T0,T2,t,u,rfl,rfl,hE,c,Bc a2 (rfl),by omega,Ok hma hlt hS hmem hq,Mz hlt hmem,(by simp only[AcQ,Adh,Adp];omega),trivial⟩ ?_)));show m.length-(intOf (NI ((i)+(1)))).toNat<m.length-(intOf (aa 9)).toNat;rw[q9];simp only[intOf,Ac0];omega
  have hr_vo:=hr_vo.keep g;have hyl:(o.getD (o.length-1) []).length=32:=AD (hr_vo.1 _ (getD_mem [] (by omega)));refine CD [0,1,2,3,4,5,6,7,8,9,10,11,12] [] [] fun bi r=> ?_;have hr_vo:=hr_vo.keep r;refine ys (ZI NB (ZC (ZG hr_vo) h) zz) (ys (Zv (a:=(o.length:Nat)) (b:=(0:Nat)) rfl rfl (AF _ _ _ _) zz) (kF (h0) (ys (ZI NB (ZC (ZG hr_vo) h) zz) (ys (Zw (xv:=NI o.length) (yv:=NI 1) rfl rfl rfl (BN _ _ _ (by omega) (by omega)) zz) ?_))));have a3:(AcL (o.getD ((o.length)-(1)) ([]:List UInt8))).length=32:=(RG.elem (ZG hr_vo) ([]:List UInt8) (by omega));have f:=eb r f;refine yA (ZO NB Sj (by decide) ([]:List UInt8) (ZC (ZG hr_vo) h) rfl (by omega) fun bj ao=>(ys (ZS (ZT ao rfl) Wq rfl (by rw[a3];exact R4) zz) (ys (Zz rfl f Wq rfl (by exact Ac (AD (j))) zz) (ys (AaN (l1:=(o.getD ((o.length)-(1)) ([]:List UInt8))) (l2:=(m.getD (i) ([]:List UInt8))) Wq u5 Qq ST rfl rfl (hyl) (hxl) zz) (ys (ZH rfl rfl zz) ?_)))));clear ao;refine cD rfl (fun af=> ?_) fun af=> ?_
  ·have hq:o.length=0∨o.getD (o.length-1) []≠m.getD i []:= .inr af;refine gS (Zz rfl f Wq rfl (by exact Ac (AD (j))) (gS (Z2 (a:=(m.getD (i) ([]:List UInt8))) (enc:=AcL) (vr (AB (m.getD (i) ([]:List UInt8))) rfl) (by rw[AcZ];exact(AD (j))) setK_lg42 fun a4 a5 ap ag=> ?_)));have hZ1:=r.trans ag;have c:=c.trans hZ1;have hr_vo:=hr_vo.keep ag;refine gS (ZM _ _ k.heap.size _ 32 NB pk6_ig33.choose_spec.1 pk6_ig33.choose_spec.2 NB (o) ([(m.getD (i) ([]:List UInt8))]) (OG.of hr_vo h) (ZC ap (vr a4 rfl)) (fun _ _=>Af _) (by simp only[Adh,Adp];omega) (by simp only[Adh,Adp];omega) c.size fun aq a6 a7 s=> ?_);have s:Grew a5 a6 vo aq:= .eqv h s;have f:=eb ag f;have g:=g.trans hZ1;have hE:=hE.trans g;have hE:=Aq hE s hr_vo.2 z;have c:=Aq c s hr_vo.2 (AcP _);have f:=Ao f s ak;clear ap;clear hr_vo;refine gS (Zw (xv:=NI i) (yv:=NI 1) p rfl rfl (Ag _ _ _ (by omega)) (gK (Adr ⟨i+1,o++ [m.getD i []],aq,T0,T2,t,u,rfl,rfl,hE,c,Bc a7 (rfl),by omega,Ok hma hlt hS hmem hq,Mz hlt hmem,(by simp only[AcQ,Adh,Adp];omega),trivial⟩ ?_)));show m.length-(intOf (NI ((i)+(1)))).toNat<m.length-(intOf (aa 9)).toNat;rw[q9];simp only[intOf,Ac0];omega
  have hq:¬o.getD (o.length-1) []≠m.getD i []:=af;have g:=g.trans r;have hE:=hE.trans g;have c:=c.trans r;refine gS (Zw (xv:=NI i) (yv:=NI 1) p rfl rfl (Ag _ _ _ (by omega)) (gK (Adr ⟨i+1,o,vo,T0,T2,t,u,rfl,h,hE,c,Bc hr_vo (rfl),by omega,hS,Ty hlt hmem h0 hq,by omega,trivial⟩ ?_)));show m.length-(intOf (NI ((i)+(1)))).toNat<m.length-(intOf (aa 9)).toNat;rw[q9];simp only[intOf,Ac0];omega
 refine Bb rfl h ?_;rw[show i=m.length by omega,Ad6]at hmem;exact⟨_,o,rfl,OG.low hr_vo (by have:=z;omega),hS,fun x=>(hmem x).trans (hmm x),by omega,hE⟩
theorem Tz(p s:List UInt8):(Ay p s).1.length≤s.length:=by
 unfold Ay;split
 ·show(s.drop p.length).length≤_;rw[Ac5];omega
 ·exact AcP _
section
variable {D : Ae} {s : List UInt8}
theorem Xu(h:(Ay [111,45] s).2=false):(CI D s).isSome=false:=by unfold CI;rw[if_neg (fun q=>by rw[h]at q;cases q.1)];rfl
theorem Rz(h:(A4 (Ay [111,45] s).1).2=false):(CI D s).isSome=false:=by unfold CI;rw[if_neg (fun q=>by rw[h]at q;cases q.2.1)];rfl
theorem Vg(h:(Ay [111,45] s).2=true)(h2:(A4 (Ay [111,45] s).1).2=true):(CI D s).isSome=decide ((BH D (A4 (Ay [111,45] s).1).1).2=0):=by
 unfold CI;by_cases q:(BH D (A4 (Ay [111,45] s).1).1).2=0
 ·rw[if_pos ⟨h,h2,q⟩,decide_eq_true q];rfl
 ·rw[if_neg (fun x=>q x.2.2),decide_eq_false q];rfl
theorem TA(h:(CI D s).isSome=true):CI D s=some (A4 (Ay [111,45] s).1).1:=by
 unfold CI at h ⊢;split
 ·rfl
 ·rename_i q;rw[if_neg q]at h;cases h
theorem Xv{l:List (List UInt8)}{i:Nat}{x:List UInt8}(h:i<l.length)(hx:CI D (l.getD i [])=some x):(l.take i).filterMap (CI D)++ [x]=(l.take (i+1)).filterMap (CI D):=by
 rw[Adi h,Af9];rw[AcO,AcS h,AdI]at hx;rw[List.filterMap_cons_some hx];rfl
theorem Yu{l:List (List UInt8)}{i:Nat}(h:i<l.length)(hx:CI D (l.getD i [])=none):(l.take i).filterMap (CI D)=(l.take (i+1)).filterMap (CI D):=by
 rw[Adi h,Af9];rw[AcO,AcS h,AdI]at hx;rw[List.filterMap_cons_none hx];simp
theorem TB(h:DOk D){i:Nat}(hi:i<(AE D).length):((AE D).getD i []).length≤80:=by
 unfold AE at hi ⊢;split
 ·rename_i q;rw[if_pos q]at hi;cases hi
 ·rename_i q
  rw[if_neg q,Ada]at hi;rw[AcO,Aej,AcS hi];exact(Cp (h.now.may _ (Ad9 hi))).2
theorem Xw(h:(AE D).length≤100000):(EX D).length≤100000:=AcN (AfE _ _) h
end
theorem Vh:Plain AcM 75:=fun _ _=>by kernel_rfl
theorem Vi:Plain AcM 76:=fun _ _=>by kernel_rfl
theorem Vj:Plain AcM 97:=fun _ _=>by kernel_rfl
theorem Vk:Plain AcM 27:=fun _ _=>by kernel_rfl
theorem Vl:Plain AcM 96:=fun _ _=>by kernel_rfl
theorem Vm:∀(cs:Array AcJ),cs.size=32→∀w:AcK,(Adt 42 1 #[(0, .agg cs)]).run AcM w = .ok (.slice (some ⟨w.heap.size,0,none⟩) 1 1) (w.alloc (.cells cs 33))
 | ⟨[c0,c1,c2,c3,c4,c5,c6,c7,c8,c9,c10,c11,c12,c13,c14,c15,c16,c17,c18,c19,c20,c21,c22,c23,c24,c25,c26,c27,c28,c29,c30,c31]⟩,_,w=>Us c0 c1 c2 c3 c4 c5 c6 c7 c8 c9 c10 c11 c12 c13 c14 c15 c16 c17 c18 c19 c20 c21 c22 c23 c24 c25 c26 c27 c28 c29 c30 c31 w
theorem Vn:Plain AcM 23:=fun _ _=>by kernel_rfl
theorem TC(wb w:AcK)(g:Nat)(H:Dk)(D:Ae)(hD:DkG wb w g H D)(hG:Laid wb)(hL:Df D)(s:List UInt8)(hs:s.length≤9223372036854775807)(bd:Nat)(hbd:w.heap[bd]? =some (.cells ([PQ g 0]).toArray 50 (0,0))):
  Calls AcM 96 #[St s,PQ bd 0] w fun e w' =>e = .returned (.tuple #[AB ((A4 (Ay [111,45] s).1).1), .bool (CI D s).isSome])∧Ext w w' :=by
 refine gG (args:= [St (s),PQ bd 0]) Tryz.func96 rfl 29 rfl rfl ?_;have hE:=Ext.refl w;refine gS (Yk.alloc Ur fun v w3 a0 ag ah bb=> ?_);have bc:=As (bl hbd) a0;have hbd:=eb ah hbd;have hE:=hE.trans ah;have a:=ag;clear ag;have be:v<w3.heap.size:=by omega
 refine gS (Zx Vh rfl rfl ((In _ s [111,45] hs).mono ?_));rintro e bf ⟨rfl,aa⟩;refine⟨_,rfl,?_⟩;have hbd:=eb aa hbd;have hE:=hE.trans aa;have a:=eb aa a;refine gS (Yk.extract (vs:= [St ((Ay [111,45] s).1), .bool ((Ay [111,45] s).2)]) rfl rfl (gS (Yk.extract (vs:= [St ((Ay [111,45] s).1), .bool ((Ay [111,45] s).2)]) rfl rfl (gS (ZA Vi rfl ((Mx _ (Ay [111,45] s).1 (AcN (Tz _ _) hs)).mono ?_))))));rintro e a1 ⟨rfl,ab⟩;refine⟨_,rfl,?_⟩;have hbd:=eb ab hbd;have hE:=hE.trans ab;have a:=eb ab a;refine gS (Yk.extract (vs:= [AB ((A4 (Ay [111,45] s).1).1), .bool ((A4 (Ay [111,45] s).1).2)]) rfl rfl (gS (Yk.extract (vs:= [AB ((A4 (Ay [111,45] s).1).1), .bool ((A4 (Ay [111,45] s).1).2)]) rfl rfl (gS (Yk.alloc Ur fun f a2 ai aj y bg=> ?_)))));have c:=Ext.refl a1;have bh:=hE;have a3:=hE.size;have bi:=As (bl hbd) ai;have bj:=As (bl a) ai;have hbd:=eb y hbd;have hE:=hE.trans y;have a:=eb y a;have c:=c.trans y;have b:=aj;clear aj;have bk:f<a2.heap.size:=by omega
 refine gS (Zy (vr (PQ f 0) rfl) (vr (AB ((A4 (Ay [111,45] s).1).1)) rfl) b (by exact Bn (AX _) Ac7) (by exact Ac (AX _)) (Af _) fun bm ak z bn=> ?_);have hbd:=kb z hbd (by omega);have hE:=Ab hE z (AcN a3 (by omega));have a:=kb z a (by omega);have c:=Ab c z (AcN (AcP _) (by omega));clear b;have b:=ak;clear ak;have bo:=bl b;rcases AfF (Ay [111,45] s).2 with hc | hc
 ·rcases AfF (A4 (Ay [111,45] s).1).2 with hu | hu
  ·refine gR ?_;refine Fq 9 10 [Is (AB ((A4 (Ay [111,45] s).1).1)),Is (.bool (true)),Is (.bool (true)),Is (.bool (true)),Is (.bool (true)),Is (.bool (true)),Is (PQ g 0),Is (AB ((A4 (Ay [111,45] s).1).1)),Is (.bool (decide ((BH D (A4 (Ay [111,45] s).1).1).2=0))),Is (.bool (decide ((BH D (A4 (Ay [111,45] s).1).1).2=0)))] (by kernel_rfl) [19,20,21,22,23,24,25,26,27,28,4] (by kernel_rfl) rfl (by kernel_rfl) (by kernel_rfl) (by kernel_rfl) (by kernel_rfl) (by kernel_rfl) (by kernel_rfl) rfl rfl (Uf trivial) (fun _ _ _ _ h=>h) ?a4 ?hQ1003
   case a4=>
    refine⟨?_,?_,?_,?_,?_,?_,?_,?_,?_,?_,?_,?_,trivial⟩
    ·refine Bv (Ah rfl fun σ w1 hC h=> ?_);have j:σ 7=PQ f 0:=(Az (h 7 (by decide))).trans rfl;exact Zz j (eb hC b) Wq rfl (by exact Ac (AX _)) ⟨Ext.refl _,rfl⟩
    ·refine Bv (Ah rfl fun σ w1 hC h=> ?_);have k:σ 6 = .bool (true):=(Az (h 6 (by decide))).trans ((show _=Adl (Ay [111,45] s).2 from rfl).trans (congrArg Adl hc));exact Yk.move k ⟨Ext.refl _,rfl⟩
    ·refine Bv (Ah rfl fun σ w1 hC h=> ?_);have l:=Az (h 20 (by decide));exact Yk.move l ⟨Ext.refl _,rfl⟩
    ·refine Bv (Kx 2 true 21 rfl rfl (fun _ _ h=>h) fun σ w1 hC h=> ?_);have e8:σ 8 = .bool (true):=(Az (h 8 (by decide))).trans ((show _=Adl (A4 (Ay [111,45] s).1).2 from rfl).trans (congrArg Adl hu));exact Yk.move e8 ⟨Ext.refl _,rfl⟩
    ·refine Bv (Ah rfl fun σ w1 hC h=> ?_);have m:=Az (h 21 (by decide));have ac:=Az (h 22 (by decide));exact ZE m ac ⟨Ext.refl _,rfl⟩
    ·refine Bv (Ah rfl fun σ w1 hC h=> ?_);have n:=Az (h 23 (by decide));exact Yk.move n ⟨Ext.refl _,rfl⟩
    ·refine Bv (Kx 5 true 24 rfl rfl (fun _ _ h=>h) fun σ w1 hC h=> ?_);have e1:σ 1=PQ bd 0:=(Az (h 1 (by decide))).trans rfl;exact Zu UQ rfl e1 (cellAt (eb hC hbd) (show _=some (PQ g 0:AcJ)from rfl)) ⟨Ext.refl _,rfl⟩
    ·refine Bv (Kx 5 true 24 rfl rfl (fun _ _ h=>h) fun σ w1 hC h=> ?_);have j:σ 7=PQ f 0:=(Az (h 7 (by decide))).trans rfl;exact Zz j (eb hC b) Wq rfl (by exact Ac (AX _)) ⟨Ext.refl _,rfl⟩
    ·refine Bv (Kx 5 true 24 rfl rfl (fun _ _ h=>h) fun σ w1 hC h=> ?_);have a6:=Az (h 25 (by decide));have a7:=Az (h 26 (by decide));refine Zx Vj a6 a7 ((Xq wb _ g H D (hD.keep (hE.trans hC)) hG hL (A4 (Ay [111,45] s).1).1 (AX _)).mono ?_);rintro e w2 ⟨rfl,hx⟩;exact⟨_,rfl,hx,rfl⟩
    ·refine Bv (Ah rfl fun σ w1 hC h=> ?_);have o:=Az (h 24 (by decide));have a8:=Az (h 27 (by decide));exact ZE o a8 ⟨Ext.refl _,rfl⟩
    ·exact trivial
    ·exact trivial
   intro al bp p he hf;obtain⟨k19,-,-,-,-,-,-,-,-,k28,-⟩:=hf;obtain⟨T0,T1,i,T5,T6,T7,T8,-⟩:=he.hold [(0,St (s)),(1,PQ bd 0),(3,PQ v 0),(5,St ((Ay [111,45] s).1)),(6,_),(7,PQ f 0),(8,_)] ⟨rfl,rfl,rfl,rfl,((show _=Adl (Ay [111,45] s).2 from rfl).trans (congrArg Adl hc)),rfl,((show _=Adl (A4 (Ay [111,45] s).1).2 from rfl).trans (congrArg Adl hu)),trivial⟩ rfl;clear he;have hbd:=eb p hbd;have hE:=hE.trans p;have a:=eb p a;have c:=c.trans p;have b:=eb p b;have q:al 19=AB ((A4 (Ay [111,45] s).1).1):=k19;have r:al 28 = .bool (decide ((BH D (A4 (Ay [111,45] s).1).1).2=0)):=k28;clear k19 k28;refine gZ (gS (Zy i q a (by exact Bn (AX _) Ac7) (by exact Ac (AX _)) (Af _) fun bq au ad br=> ?_));have hbd:=kb ad hbd (by omega);have hE:=Ab hE ad (AcN (AcP _) (by omega));clear c;have b:=kb ad b (by omega);clear a;have a:=au;clear au;have bs:=bl a;refine JE rfl (ResF.row i a Wq rfl (by exact Ac (AX _))) r ?_;exact⟨by rw[Vg hc hu],hE⟩
  refine gR ?_;refine Fq 9 10 [Is (AB ((A4 (Ay [111,45] s).1).1)),Is (.bool (true)),Is (.bool (true)),Is (.bool (false)),Is (.bool (false)),Is (.bool (false)),Is undef,Is undef,Is undef,Is (.bool (false))] (by kernel_rfl) [19,20,21,22,23,24,25,26,27,28,4] (by kernel_rfl) rfl (by kernel_rfl) (by kernel_rfl) (by kernel_rfl) (by kernel_rfl) (by kernel_rfl) (by kernel_rfl) rfl rfl (Uf trivial) (fun _ _ _ _ h=>h) ?a9 ?hQ2003
  case a9=>
   refine⟨?_,?_,?_,?_,?_,?_,?_,?_,?_,?_,?_,?_,trivial⟩
   ·refine Bv (Ah rfl fun σ w1 hC h=> ?_);have j:σ 7=PQ f 0:=(Az (h 7 (by decide))).trans rfl;exact Zz j (eb hC b) Wq rfl (by exact Ac (AX _)) ⟨Ext.refl _,rfl⟩
   ·refine Bv (Ah rfl fun σ w1 hC h=> ?_);have k:σ 6 = .bool (true):=(Az (h 6 (by decide))).trans ((show _=Adl (Ay [111,45] s).2 from rfl).trans (congrArg Adl hc));exact Yk.move k ⟨Ext.refl _,rfl⟩
   ·refine Bv (Ah rfl fun σ w1 hC h=> ?_);have l:=Az (h 20 (by decide));exact Yk.move l ⟨Ext.refl _,rfl⟩
   ·refine Bv (Kx 2 true 21 rfl rfl (fun _ _ h=>h) fun σ w1 hC h=> ?_);have e8:σ 8 = .bool (false):=(Az (h 8 (by decide))).trans ((show _=Adl (A4 (Ay [111,45] s).1).2 from rfl).trans (congrArg Adl hu));exact Yk.move e8 ⟨Ext.refl _,rfl⟩
   ·refine Bv (Ah rfl fun σ w1 hC h=> ?_);have m:=Az (h 21 (by decide));have ac:=Az (h 22 (by decide));exact ZE m ac ⟨Ext.refl _,rfl⟩
   ·refine Bv (Ah rfl fun σ w1 hC h=> ?_);have n:=Az (h 23 (by decide));exact Yk.move n ⟨Ext.refl _,rfl⟩
   ·refine Bv (Hv 5 true 24 rfl rfl (fun x _ (h:x = .bool false)=>by rw[h];intro h;cases h) fun _=>rfl)
   ·refine Bv (Hv 5 true 24 rfl rfl (fun x _ (h:x = .bool false)=>by rw[h];intro h;cases h) fun _=>rfl)
   ·refine Bv (Hv 5 true 24 rfl rfl (fun x _ (h:x = .bool false)=>by rw[h];intro h;cases h) fun _=>rfl)
   ·refine Bv (Ah rfl fun σ w1 hC h=> ?_);have o:=Az (h 24 (by decide));exact ZH o (vr (.bool (false)) rfl) ⟨Ext.refl _,rfl⟩
   ·exact trivial
   ·exact trivial
  intro av bt t he hf;obtain⟨k19,-,-,-,-,-,-,-,-,k28,-⟩:=hf;obtain⟨T0,T1,i,T5,T6,T7,T8,-⟩:=he.hold [(0,St (s)),(1,PQ bd 0),(3,PQ v 0),(5,St ((Ay [111,45] s).1)),(6,_),(7,PQ f 0),(8,_)] ⟨rfl,rfl,rfl,rfl,((show _=Adl (Ay [111,45] s).2 from rfl).trans (congrArg Adl hc)),rfl,((show _=Adl (A4 (Ay [111,45] s).1).2 from rfl).trans (congrArg Adl hu)),trivial⟩ rfl;clear he;have hbd:=eb t hbd;have hE:=hE.trans t;have a:=eb t a;have c:=c.trans t;have b:=eb t b;have q:av 19=AB ((A4 (Ay [111,45] s).1).1):=k19;have r:av 28 = .bool (false):=k28;clear k19 k28;refine gZ (gS (Zy i q a (by exact Bn (AX _) Ac7) (by exact Ac (AX _)) (Af _) fun bu aw ae bv=> ?_));have hbd:=kb ae hbd (by omega);have hE:=Ab hE ae (AcN (AcP _) (by omega));clear c;have b:=kb ae b (by omega);clear a;have a:=aw;clear aw;have bw:=bl a;refine JE rfl (ResF.row i a Wq rfl (by exact Ac (AX _))) r ?_;exact⟨by rw[Rz hu],hE⟩
 refine gR ?_;refine Fq 9 10 [Is (AB ((A4 (Ay [111,45] s).1).1)),Is (.bool (false)),Is (.bool (false)),Is undef,Is (.bool (false)),Is (.bool (false)),Is undef,Is undef,Is undef,Is (.bool (false))] (by kernel_rfl) [19,20,21,22,23,24,25,26,27,28,4] (by kernel_rfl) rfl (by kernel_rfl) (by kernel_rfl) (by kernel_rfl) (by kernel_rfl) (by kernel_rfl) (by kernel_rfl) rfl rfl (Uf trivial) (fun _ _ _ _ h=>h) ?ba ?hQ3003
 case ba=>
  refine⟨?_,?_,?_,?_,?_,?_,?_,?_,?_,?_,?_,?_,trivial⟩
  ·refine Bv (Ah rfl fun σ w1 hC h=> ?_);have j:σ 7=PQ f 0:=(Az (h 7 (by decide))).trans rfl;exact Zz j (eb hC b) Wq rfl (by exact Ac (AX _)) ⟨Ext.refl _,rfl⟩
  ·refine Bv (Ah rfl fun σ w1 hC h=> ?_);have k:σ 6 = .bool (false):=(Az (h 6 (by decide))).trans ((show _=Adl (Ay [111,45] s).2 from rfl).trans (congrArg Adl hc));exact Yk.move k ⟨Ext.refl _,rfl⟩
  ·refine Bv (Ah rfl fun σ w1 hC h=> ?_);have l:=Az (h 20 (by decide));exact Yk.move l ⟨Ext.refl _,rfl⟩
  ·refine Bv (Hv 2 true 21 rfl rfl (fun x _ (h:x = .bool false)=>by rw[h];intro h;cases h) fun _=>rfl)
  ·refine Bv (Ah rfl fun σ w1 hC h=> ?_);have m:=Az (h 21 (by decide));exact ZH m (vr (.bool (false)) rfl) ⟨Ext.refl _,rfl⟩
  ·refine Bv (Ah rfl fun σ w1 hC h=> ?_);have n:=Az (h 23 (by decide));exact Yk.move n ⟨Ext.refl _,rfl⟩
  ·refine Bv (Hv 5 true 24 rfl rfl (fun x _ (h:x = .bool false)=>by rw[h];intro h;cases h) fun _=>rfl)
  ·refine Bv (Hv 5 true 24 rfl rfl (fun x _ (h:x = .bool false)=>by rw[h];intro h;cases h) fun _=>rfl)
  ·refine Bv (Hv 5 true 24 rfl rfl (fun x _ (h:x = .bool false)=>by rw[h];intro h;cases h) fun _=>rfl)
  ·refine Bv (Ah rfl fun σ w1 hC h=> ?_);have o:=Az (h 24 (by decide));exact ZH o (vr (.bool (false)) rfl) ⟨Ext.refl _,rfl⟩
  ·exact trivial
  ·exact trivial
 intro ax bx u he hf;obtain⟨k19,-,-,-,-,-,-,-,-,k28,-⟩:=hf;obtain⟨T0,T1,i,T5,T6,T7,T8,-⟩:=he.hold [(0,St (s)),(1,PQ bd 0),(3,PQ v 0),(5,St ((Ay [111,45] s).1)),(6,_),(7,PQ f 0),(8, .bool ((A4 (Ay [111,45] s).1).2))] ⟨rfl,rfl,rfl,rfl,((show _=Adl (Ay [111,45] s).2 from rfl).trans (congrArg Adl hc)),rfl,rfl,trivial⟩ rfl;clear he;have hbd:=eb u hbd;have hE:=hE.trans u;have a:=eb u a;have c:=c.trans u;have b:=eb u b;have q:ax 19=AB ((A4 (Ay [111,45] s).1).1):=k19;have r:ax 28 = .bool (false):=k28;clear k19 k28;refine gZ (gS (Zy i q a (by exact Bn (AX _) Ac7) (by exact Ac (AX _)) (Af _) fun bz ay af b0=> ?_));have hbd:=kb af hbd (by omega);have hE:=Ab hE af (AcN (AcP _) (by omega));clear c;have b:=kb af b (by omega);clear a;have a:=ay;clear ay;have b1:=bl a;refine JE rfl (ResF.row i a Wq rfl (by exact Ac (AX _))) r ?_;exact⟨by rw[Xu hc],hE⟩

theorem Vo(wb w:AcK)(g:Nat)(H:Dk)(D:Ae)(hD:DkG wb w g H D)(hG:Laid wb)(hL:Df D)(hnm:(AE D).length≤100000):
  Calls AcM 53 #[PQ g 0] w fun e w' =>∃v o,e = .returned v∧OG w.heap.size 33 32 (AcL) w' v o∧Ek o∧(∀x,x∈o↔x∈EX D)∧o.length≤(EX D).length∧Ext w w' :=by
 refine gG (args:= [PQ g 0]) Tryz.func53 rfl 31 rfl rfl ?_;have hE:=Ext.refl w;refine gS (Aaf (vr (PQ g 0) rfl) rfl fun j w3 bh an a1 bi=> ?_);have hE:=hE.trans a1;have c:=an;clear an;have bj:j<w3.heap.size:=by omega
 refine gS (Z8 (vs:= #[PQ j 0]) (by simp only[Ads,Ado,AdA];exact congrArg Aec (M9 (vr (PQ j 0) rfl))) (gS (Zu UQ rfl rfl (cellAt c rfl) ?_)));have q:=Ext.refl w3;have bk:=hE;have bm:=hE.size;refine gS (ZA Vk rfl (((hD.keep hE).list hL).mono ?_));rintro e n ⟨ao,rfl,ap,ae⟩;refine⟨_,rfl,?_⟩;have bn:OB ao j:=Dp ap.2 (bl c);have hE:=hE.trans ae;have c:=eb ae c;have q:=q.trans ae;have af:=ZG ap;refine gS (ZI N9 (ZC af rfl) ?_);have f:=Ext.refl n;have bo:=hE;have bp:=q;have a2:=hE.size;have bq:=q.size;have hrow0:OG n.heap.size 33 32 (AcL) n (AcU none 0 0) ([]:List (List UInt8)):=OG.nil _ _ _ _ _;have a3:AcT (AcU none 0 0)≠some j:=fun e_=>by cases e_
 have hDk:=hD;have hL100:=hnm;refine gL (fun(ρ:Ad) (wz:AcK)=>∃i:Nat,∃r:AcJ,ρ 0=(PQ g 0:AcJ)∧ρ 1=(PQ j 0:AcJ)∧ρ 2=((AcU none 0 0):AcJ)∧ρ 3=(.func (.func 96) #[] #[PQ j 0]:AcJ)∧ρ 11=(ao:AcJ)∧ρ 12=(NI (((AE D)).length):AcJ)∧ρ 13=(NI i:AcJ)∧ρ 4=(r:AcJ)∧Ext w wz∧wz.heap[j]? =some (.cells (([PQ g 0]:List AcJ)).toArray 50 (0,0))∧Ext n wz∧OG n.heap.size 33 32 (AcL) wz r (((AE D).take i).filterMap (CI D))∧(i≤(AE D).length)∧(OB r j)∧True) (fun ρ _=>(AE D).length-(intOf (ρ 13)).toNat) ⟨0,(AcU none 0 0),rfl,rfl,rfl,rfl,rfl,rfl,rfl,rfl,hE,c,f,Bc hrow0 (rfl),Adm _,a3,trivial⟩ ?_;clear q;clear hrow0;clear hE c f;rintro aq ar ⟨i,r,T0,T1,T2,T3,ah,ai,s,z,hE,c,f,hr_r,hi,hap_r_n2,-⟩;have q13:=s;refine gS (Zv (a:=(i:Nat)) (b:=(((AE D)).length:Nat)) s ai (AI _ _ _ _) ?_);refine cD rfl (fun aj=> ?_) fun aj=> ?_
 ·have hlt:i<(AE D).length:=aj;have hel:=TB hDk.st.ok hlt;have hfl:(((AE D).take i).filterMap (CI D)).length≤i:=AcN (AfE _ _) (by rw[Ac8];exact Ags _ _);have br:(CX (((AE D)).getD (i) ([]:List UInt8))).length=1:=(RG.elem (af.keep f) ([]:List UInt8) (by omega));refine gS (ZO N9 UR (by decide) ([]:List UInt8) (ZC (af.keep f) ah) s (by omega) fun bs ax=>(gS (ZL PO rfl (PR.cell (ZT ax rfl) rfl) ?_)));clear ax;refine gS (Aav Vl (caps:= #[PQ j 0]) T3 #[St (((AE D)).getD (i) ([]:List UInt8)),PQ j 0] (by simp only[Ads,Ado,AdA,AeP,AdP,AdS];exact congrArg Aec (FA rfl rfl)) ((TC wb _ g H D (hD.keep hE) hG hL ((AE D).getD (i) ([]:List UInt8)) (by omega) j c).mono ?_));rintro e a4 ⟨rfl,aa⟩;refine⟨_,rfl,?_⟩;have hE:=hE.trans aa;have c:=eb aa c;have f:=f.trans aa;have hr_r:=hr_r.keep aa;refine gS (Yk.extract (vs:= [AB ((A4 (Ay [111,45] ((AE D).getD (i) ([]:List UInt8))).1).1), .bool ((CI D ((AE D).getD (i) ([]:List UInt8))).isSome)]) rfl rfl (gS (Yk.extract (vs:= [AB ((A4 (Ay [111,45] ((AE D).getD (i) ([]:List UInt8))).1).1), .bool ((CI D ((AE D).getD (i) ([]:List UInt8))).isSome)]) rfl rfl (gS (Yk.alloc Ur fun ab a5 a6 ay t bt=> ?_)))));have m:=Ext.refl a4;have bu:=hE;have bv:=f;have a7:=hE.size;have a8:=f.size;have bw:=As (bl c) a6;have ak:OB r ab:=A3 hr_r.2 (by omega);have hE:=hE.trans t;have c:=eb t c;have f:=f.trans t;have hr_r:=hr_r.keep t;have m:=m.trans t;have k:=ay;clear ay;have bx:ab<a5.heap.size:=by omega
  refine gS (Zy (vr (PQ ab 0) rfl) (vr (AB ((A4 (Ay [111,45] ((AE D).getD (i) ([]:List UInt8))).1).1)) rfl) k (by exact Bn (AX _) Ac7) (by exact Ac (AX _)) (Af _) fun bz az u b0=> ?_);have hE:=Ab hE u (AcN a7 (by omega));have c:=kb u c (by omega);have f:=Ab f u (AcN a8 (by omega));have hr_r:=OG.kept hr_r u ak;have m:=Ab m u (AcN (AcP _) (by omega));clear k;have k:=az;clear az;have b1:=bl k;refine cB ((CI D ((AE D).getD (i) ([]:List UInt8))).isSome) rfl (fun al=> ?_) fun al=> ?_
  ·have hi1:CI D ((AE D).getD (i) ([]:List UInt8))=some (A4 (Ay [111,45] ((AE D).getD (i) ([]:List UInt8))).1).1:=TA al;refine gS (Zz rfl k Wq rfl (by exact Ac (AX _)) (gS (Z2 (a:=(A4 (Ay [111,45] ((AE D).getD (i) ([]:List UInt8))).1).1) (enc:=AcL) (vr (AB ((A4 (Ay [111,45] ((AE D).getD (i) ([]:List UInt8))).1).1)) rfl) ((by rw[AcZ,(AX _)])) Vm fun a9 ba a0 p=> ?_)));have hE:=hE.trans p;have c:=eb p c;have f:=f.trans p;have hr_r:=hr_r.keep p;have m:=m.trans p;have k:=eb p k;refine gS (ZM _ _ n.heap.size _ 32 NB pk6_ig33.choose_spec.1 pk6_ig33.choose_spec.2 NB (((AE D).take i).filterMap (CI D)) ([(A4 (Ay [111,45] ((AE D).getD (i) ([]:List UInt8))).1).1]) (OG.of hr_r z) (ZC a0 (vr a9 rfl)) (fun y _=>Af y) (by simp only[Ac9];omega) (by simp only[Ac9];omega) f.size fun ac bb bc l=> ?_);have l:Grew ba bb r ac:= .eqv z l;have bd:OB ac j:=An l hap_r_n2 (bl c);have b2:OB ac ab:=An l ak (bl k);have hE:=Aq hE l hr_r.2 a2;have c:=Ao c l hap_r_n2;have f:=Aq f l hr_r.2 (AcP _);clear m;have k:=Ao k l ak;clear a0;clear hr_r;refine gS (Zw (xv:=NI i) (yv:=NI 1) s rfl rfl (Ag _ _ _ (by omega)) (gK (Adr ⟨i+1,ac,T0,T1,T2,T3,ah,ai,rfl,rfl,hE,c,f,Bc bc ((Xv hlt hi1)),by omega,bd,trivial⟩ ?_)));show(AE D).length-(intOf (NI ((i)+(1)))).toNat<(AE D).length-(intOf (aq 13)).toNat;rw[q13];simp only[intOf,Ac0];omega
  have hi0:CI D ((AE D).getD (i) ([]:List UInt8))=none:=by simpa using al
  refine gS (Zw (xv:=NI i) (yv:=NI 1) s rfl rfl (Ag _ _ _ (by omega)) (gK (Adr ⟨i+1,r,T0,T1,T2,T3,ah,ai,rfl,z,hE,c,f,Bc hr_r ((Yu hlt hi0)),by omega,hap_r_n2,trivial⟩ ?_)));show(AE D).length-(intOf (NI ((i)+(1)))).toNat<(AE D).length-(intOf (aq 13)).toNat;rw[q13];simp only[intOf,Ac0];omega
 have hie:i=(AE D).length:=by have h:=aj;omega
 have hrl:RG 32 (AcL) ar r (EX D):=YM (ZG hr_r) (by rw[hie,Ad6];rfl);have hsz9:w.heap.size≤ar.heap.size:=hE.size;refine gS (ZA Vn z ((Jv _ _ (EX D) hrl (Xw hL100)).mono ?_));rintro e b3 ⟨be,o,rfl,bf,hS,hM,hN,ad⟩;refine⟨_,rfl,?_⟩;have hE:=hE.trans ad;have c:=eb ad c;have f:=f.trans ad;have hr_r:=hr_r.keep ad;have bg:=bf;refine Bb rfl (vr be rfl) ?_;exact⟨_,o,rfl,OG.low bg hsz9,hS,hM,hN,hE⟩
theorem Om{D:Ae}(h:DOk D){i:Nat}(hi:i<(AE D).length):((AE D).getD i []).length≤80:=by
 unfold AE at hi ⊢;split
 ·rename_i q;rw[if_pos q]at hi;cases hi
 ·rename_i q
  rw[if_neg q,Ada]at hi;rw[AcO,Aej,AcS hi];exact(Cp (h.now.may _ (Ad9 hi))).2
theorem P0{α:Type}{l:List α}{p:α→Bool}{i:Nat}{d:α}(h:i<l.length)(hp:p (l.getD i d)=true):(l.take i).filter p++ [l.getD i d]=(l.take (i+1)).filter p:=by
 rw[Adi h,AfX];rw[AcO,AcS h,AdI]at hp ⊢;rw[AgL hp];rfl
theorem TD{α:Type}{l:List α}{p:α→Bool}{i:Nat}{d:α}(h:i<l.length)(hp:p (l.getD i d)=false):(l.take i).filter p=(l.take (i+1)).filter p:=by
 rw[Adi h,AfX];rw[AcO,AcS h,AdI]at hp;rw[AgK (by rw[hp];decide)];simp
theorem Vp:Plain AcM 74:=fun _ _=>by kernel_rfl
theorem va1_ig9:∃z,(Tryz.prog.info? 9).map (fun i=>(i.zero,i.size,i.bytes))=some (some z,1,16)∧z.cells.size=1:=Fl (by kernel_rfl)
theorem Vq(w:AcK)(sg s:List UInt8)(hs:s.length≤9223372036854775807)(bd:Nat)(hbd:w.heap[bd]? =some (.cells ([St sg]).toArray 9 (0,0))):
  Calls AcM 74 #[St s,PQ bd 0] w fun e w' =>e = .returned (.bool (D5 sg s))∧Ext w w' :=by
 refine PB (args:= [St (s),PQ bd 0]) Tryz.func74 rfl 23 rfl rfl ?_;have hE:=Ext.refl w;refine gS (Zu PO rfl rfl (cellAt hbd rfl) (gS (Zx Vh rfl rfl ((In _ s sg hs).mono ?_))));rintro e m ⟨rfl,j⟩;refine⟨_,rfl,?_⟩;refine gS (Yk.extract (vs:= [St ((Ay sg s).1), .bool ((Ay sg s).2)]) rfl rfl (gS (Yk.extract (vs:= [St ((Ay sg s).1), .bool ((Ay sg s).2)]) rfl rfl (gS (ZA Vi rfl ((Mx _ (Ay sg s).1 (AcN (Tz _ _) hs)).mono ?_))))));rintro e n ⟨rfl,k⟩;refine⟨_,rfl,?_⟩;refine gS (Yk.extract (vs:= [AB ((A4 (Ay sg s).1).1), .bool ((A4 (Ay sg s).1).2)]) rfl rfl (gS (Yk.extract (vs:= [AB ((A4 (Ay sg s).1).1), .bool ((A4 (Ay sg s).1).2)]) rfl rfl (gS (Yk.alloc Ur fun b l o c f p=> ?_)))));have hZ1:=j.trans k;have hE:=hE.trans hZ1;have g:=hE.size;have a:=c;clear c;have q:b<l.heap.size:=by omega
 refine gS (Zy (vr (PQ b 0) rfl) (vr (AB ((A4 (Ay sg s).1).1)) rfl) a (by exact Bn (AX _) Ac7) (by exact Ac (AX _)) (Af _) fun r h i t=> ?_);clear a;have a:=h;clear h;have u:=bl a;rcases AfF (Ay sg s).2 with hc | hc
 ·refine gY rfl (vr (.bool (true)) ((show _=Adl (Ay sg s).2 from rfl).trans (congrArg Adl hc))) (gS (ZE (vr (.bool (true)) ((show _=Adl (Ay sg s).2 from rfl).trans (congrArg Adl hc))) rfl (Bb rfl (vr (.bool ((A4 (Ay sg s).1).2)) rfl) ?_)));have hE:=hE.trans f;have hE:=Ab hE i (AcN g (by omega));exact⟨by unfold D5;rw[hc,Bool.true_and],hE⟩
 refine gN rfl rfl (vr (.bool (false)) ((show _=Adl (Ay sg s).2 from rfl).trans (congrArg Adl hc))) rfl (gS (ZH (vr (.bool (false)) ((show _=Adl (Ay sg s).2 from rfl).trans (congrArg Adl hc))) rfl (Bb rfl (vr (.bool (false)) rfl) ?_)));have hE:=hE.trans f;have hE:=Ab hE i (AcN g (by omega));exact⟨by unfold D5;rw[hc,Bool.false_and],hE⟩

theorem Km(wb w:AcK)(g:Nat)(H:Dk)(D:Ae)(hD:DkG wb w g H D)(hL:Df D)(sg:List UInt8)(hnm:(AE D).length≤100000):
  Calls AcM 41 #[PQ g 0,St sg] w fun e w' =>∃v,e = .returned v∧OG w.heap.size 9 1 CX w' v (Av D sg)∧Ext w w' :=by
 refine gG (args:= [PQ g 0,St (sg)]) Tryz.func41 rfl 26 rfl rfl ?_;have hE:=Ext.refl w;refine gS (Aaf (vr (St (sg)) rfl) rfl fun j w3 ay ab al az=> ?_);have c:=ab;clear ab;have a0:j<w3.heap.size:=by omega
 refine gS (Z8 (vs:= #[PQ j 0]) (by simp only[Ads,Ado,AdA];exact congrArg Aec (M9 (vr (PQ j 0) rfl))) ?_);have hE:=hE.trans al;have a1:=hE.size;refine gS (ZA Vk rfl (((hD.keep hE).list hL).mono ?_));rintro e k ⟨am,rfl,an,ac⟩;refine⟨_,rfl,?_⟩;have p:=ZG an;refine gS (ZI N9 (ZC p rfl) ?_);have f:=Ext.refl k;have hE:=hE.trans ac;have ao:=hE.size;have hrow0:OG k.heap.size 9 1 (CX) k (AcU none 0 0) ([]:List (List UInt8)):=OG.nil _ _ _ _ _;have ap:AcT (AcU none 0 0)≠some j:=fun e_=>by cases e_
 have hDk:=hD;have hL100:=hnm;have hE1_:=hE.size;have c:=eb ac c;refine gL (fun(ρ:Ad) (wz:AcK)=>∃i:Nat,∃r:AcJ,ρ 0=(PQ g 0:AcJ)∧ρ 1=(St (sg):AcJ)∧ρ 3=(PQ j 0:AcJ)∧ρ 4=((AcU none 0 0):AcJ)∧ρ 5=(.func (.func 74) #[] #[PQ j 0]:AcJ)∧ρ 11=(am:AcJ)∧ρ 12=(NI (((AE D)).length):AcJ)∧ρ 13=(NI i:AcJ)∧ρ 6=(r:AcJ)∧Ext w wz∧wz.heap[j]? =some (.cells (([St (sg)]:List AcJ)).toArray 9 (0,0))∧Ext k wz∧OG k.heap.size 9 1 (CX) wz r (((AE D).take i).filter (D5 sg))∧(i≤(AE D).length)∧(OB r j)∧True) (fun ρ _=>(AE D).length-(intOf (ρ 13)).toNat) ⟨0,(AcU none 0 0),rfl,rfl,rfl,rfl,rfl,rfl,rfl,rfl,rfl,hE,c,f,Bc hrow0 (rfl),Adm _,ap,trivial⟩ ?_;clear hrow0;clear hE c;rintro ad a2 ⟨i,r,T0,T1,T3,T4,q,s,t,m,o,hE,c,f,hr_r,hil,hap_r_n2,-⟩;have q13:=m;refine gS (Zv (a:=(i:Nat)) (b:=(((AE D)).length:Nat)) m t (AI _ _ _ _) ?_);refine cD rfl (fun x=> ?_) fun x=> ?_
 ·have hlt:i<(AE D).length:=x;have hel:=Om hDk.st.ok hlt;have hfl:(((AE D).take i).filter (D5 sg)).length≤i:=AcN (AeE _ _) (by rw[Ac8];exact Ags _ _);have a3:(CX (((AE D)).getD (i) ([]:List UInt8))).length=1:=(RG.elem (p.keep f) ([]:List UInt8) (hlt));refine gS (ZO N9 UR (by decide) ([]:List UInt8) (ZC (p.keep f) s) m (hlt) fun a4 ai=>(gS (ZL PO rfl (PR.cell (ZT ai rfl) rfl) ?_)));clear ai;refine gS (Aav Vp (caps:= #[PQ j 0]) q #[St (((AE D)).getD (i) ([]:List UInt8)),PQ j 0] (by simp only[Ads,Ado,AdA,AeP,AdP,AdS];exact congrArg Aec (FA rfl rfl)) ((Vq _ sg ((AE D).getD (i) ([]:List UInt8)) (by omega) j c).mono ?_));rintro e a5 ⟨rfl,n⟩;refine⟨_,rfl,?_⟩;refine cB (D5 sg ((AE D).getD (i) ([]:List UInt8))) rfl (fun z=> ?_) fun z=> ?_
  ·refine gS (ZZ (a:=((AE D)).getD (i) ([]:List UInt8)) (enc:=CX) (vr (St (((AE D)).getD (i) ([]:List UInt8))) rfl) rfl (fun w=>Ke _ w) fun aq ar aj au=> ?_);have hZ1:=n.trans au;have f:=f.trans hZ1;have hr_r:=hr_r.keep hZ1;refine gS (ZM _ _ k.heap.size _ 16 N9 va1_ig9.choose_spec.1 va1_ig9.choose_spec.2 N9 (((AE D).take i).filter (D5 sg)) ([((AE D)).getD (i) ([]:List UInt8)]) (OG.of hr_r o) (ZC aj (vr aq rfl)) (fun y hy u hu=>by rw[AcY.1 hu];rfl) (by simp only[Ac9];omega) (by simp only[Ac9];omega) f.size fun aa av aw l=> ?_);have l:Grew ar av r aa:= .eqv o l;have c:=eb hZ1 c;have ax:OB aa j:=An l hap_r_n2 (bl c);have hE:=hE.trans hZ1;have hE:=Aq hE l hr_r.2 ao;have c:=Ao c l hap_r_n2;have f:=Aq f l hr_r.2 (AcP _);clear aj;clear hr_r;refine gS (Zw (xv:=NI i) (yv:=NI 1) m rfl rfl (Ag _ _ _ (by omega)) (gK (Adr ⟨i+1,aa,T0,T1,T3,T4,q,s,t,rfl,rfl,hE,c,f,Bc aw ((P0 hlt z)),by omega,ax,trivial⟩ ?_)));show(AE D).length-(intOf (NI ((i)+(1)))).toNat<(AE D).length-(intOf (ad 13)).toNat;rw[q13];simp only[intOf,Ac0];omega
  have hE:=hE.trans n;have c:=eb n c;have f:=f.trans n;have hr_r:=hr_r.keep n;refine gS (Zw (xv:=NI i) (yv:=NI 1) m rfl rfl (Ag _ _ _ (by omega)) (gK (Adr ⟨i+1,r,T0,T1,T3,T4,q,s,t,rfl,o,hE,c,f,Bc hr_r ((TD hlt z)),by omega,hap_r_n2,trivial⟩ ?_)));show(AE D).length-(intOf (NI ((i)+(1)))).toNat<(AE D).length-(intOf (ad 13)).toNat;rw[q13];simp only[intOf,Ac0];omega
 have hie:i=(AE D).length:=by have h:=x;omega
 refine Bb rfl o ?_;exact⟨_,rfl,OG.low (Bc hr_r (by rw[hie,Ad6];rfl)) hE1_,hE⟩

theorem Em(w:AcK)(hG:Laid w)(v:AcJ)(b:List UInt8)(hr:RB w v b)(hb:b.length≤1099511627776):
  Calls AcM 44 #[v] w fun e w' =>e = .returned (St (Ax b))∧Ext w w' :=by
 refine gG (args:= [v]) Tryz.func44 rfl 8 rfl rfl ?_;have hE:=Ext.refl w;refine gS (Aae Gm (ZB (hr.keep hE) (vr v rfl)) fun a i c f=> ?_);have hE:=hE.trans f;refine gS (ZA J8 rfl ((Gx _ (hG.keep hE) a b c (by omega)).mono ?_));rintro e j ⟨rfl,g⟩;refine⟨_,rfl,?_⟩;refine gS (ZA U9 rfl ((PU _ (Sha.sum b) (Sha.sum_length _)).mono ?_));rintro e k ⟨rfl,h⟩;refine⟨_,rfl,?_⟩;refine gS (Abm (l:=([112,45]:List UInt8)) (m:=hexOf (Sha.sum b)) rfl rfl (by rw[CU,Sha.sum_length];simp) (Bb rfl (vr (St ((([112,45]:List UInt8):List UInt8)++(hexOf (Sha.sum b):List UInt8))) rfl) ?_));have hZ1:=g.trans h;have hE:=hE.trans hZ1;exact⟨rfl,hE⟩
theorem RA:∀u:AcK,(zeroValue 89).run AcM u = .ok (.pointer none) u:=fun _=>by kernel_rfl
theorem DkG.offN{wb w:AcK}{g:Nat}{H:Dk}{D:Ae}(h:DkG wb w g H D){k:Nat}(hk:w.heap.size≤k):Cd H D k:=fun q=>by
  have:=(h.st.foot q).2.1;omega
theorem OpenNew.okV{n:Nat}{w:AcK}{v:AcJ}{r:Except Nat AU}{p:AU}{c:Nat}(h:OpenNew n w v r c)(e:r = .ok p):c=0∧PackNew n w v p:=by subst e;exact h
theorem Aa0{n:Nat}{w:AcK}{v:AcJ}{r:Except Nat AU}{p:AU}{c:Nat}(h:OpenNew n w v r c)(e:r = .ok p):∃gp,v=pN gp:=by
  obtain⟨g,-,-,-,h1,-⟩:=(h.okV e).2;exact⟨g,h1⟩
theorem OpenNew.bad{n:Nat}{w:AcK}{v:AcJ}{b:Bs}{e c:Nat}(h:OpenNew n w v (B4 b) c)(he:B4 b = .error e):c≠0:=by
  have:=Xl he;rw[he]at h;rw[h.1];exact this
theorem PackP.set{Q:Nat→Prop}{w w' :AcK}{v:AcJ}{p:AU}(h:PackP Q w v p){b:Nat}(hg:w.grownBy w' (some b))(hne:∀k,Q k→k≠b):PackP Q w' v p:=
  h.chg (B:=fun k=>k=b) (ZX hg fun i e=> .inl (Adu e).symm) fun k _ q=>⟨hne k q,q⟩
theorem RC{D:Ae}(h:DOk D):SortS (AE D):=by
  unfold AE;split
  · exact AeN
  · exact List.pairwise_map.2 h.now.sort
theorem F7{D:Ae}(h:DOk D)(sg:Bs):SortS (Av D sg):=(RC h).filter _
theorem TE{D:Ae}{sg s:Bs}(h:s∈Av D sg):s∈AE D:=(Aes.1 h).1
theorem MA{D:Ae}(h:DOk D){sg:Bs}{i:Nat}(hi:i<(Av D sg).length):((Av D sg).getD i ([]:List UInt8)).length≤80:=by
  have hm:=TE (getD_mem ([]:Bs) hi);obtain⟨k,hk,e⟩:=Aeh hm;have:=Om h hk;rw[AcO,AcS hk,AdI,e]at this;exact this
theorem JS(D:Ae)(l:List Bs):(l.filterMap (Ey D)).map Adk=l.filter fun s=>(Hs D s).isSome:=by
  induction l with
  | nil=>rfl
  | cons s r ih=>
    rw[Ahd,List.filter_cons];unfold Ey;cases Hs D s with
    | none=>exact ih
    | some p=>exact congrArg (s :: ·) ih
theorem RD{D:Ae}(h:DOk D):SortS ((GT D).map Adk):=by
  unfold GT;rw[JS];exact(F7 h _).filter _
theorem Xx{D:Ae}{l:List Bs}{L:AN}{i:Nat}{pk:AU}(hlt:i<l.length)(hLe:L=(l.take i).filterMap (Ey D))(hv:Hs D (l.getD i ([]:List UInt8))=some pk):L++ [(l.getD i ([]:List UInt8),pk)]=(l.take (i+1)).filterMap (Ey D):=by
  rw[AcO,AcS hlt,AdI]at hv ⊢;rw[Adi hlt,Af9,hLe];unfold Ey;rw[Ahd,hv];rfl
theorem TF{D:Ae}{l:List Bs}{L:AN}{i:Nat}(hlt:i<l.length)(hLe:L=(l.take i).filterMap (Ey D))(hv:Hs D (l.getD i ([]:List UInt8))=none):L=(l.take (i+1)).filterMap (Ey D):=by
  rw[AcO,AcS hlt,AdI]at hv;rw[Adi hlt,Af9,hLe];unfold Ey;rw[Ahd,hv];exact(AeA _).symm
theorem Xy{D:Ae}(h:DOk D){sg:Bs}{L:AN}{i:Nat}(hlt:i<(Av D sg).length)(hLe:L=((Av D sg).take i).filterMap (Ey D)):(Av D sg).getD i ([]:List UInt8)∉L.map Adk:=by
  rw[hLe,JS];intro q;have hm:=(Aes.1 q).1;obtain⟨k,hk,e⟩:=Aeh hm;rw[Ac8]at hk;rw[AgO,AcO,AcS hlt,AdI]at e;have:=(Ahy.1 (F7 h sg).nodup);have h2:=Aen.1 this k i (by omega) hlt (by omega);exact h2 e
theorem DBd.addK{n k:Nat}{D:Ae}(h:DBd n D)(s:List UInt8){b:List UInt8}(hk:1≤k)(hb:b.length≤300*k):DBd (n+k) (Cl D s b):=by
  unfold Cl;split
  · rename_i j _
    refine⟨h.quota,AcN h.refused (Ae6 _ _),h.arm,AcN h.acts (Ae6 _ _),AcN h.now (Ae6 _ _),fun x hx=> ?_⟩;rcases Afy hx with hx | rfl
    · have:=h.files x hx;omega
    · have:=h.file j;show((A0 D j).1++b).length≤_;rw[AcQ];omega
  · have h1:=(h.turned ⟨[],s,D.files.length⟩).mono (show n+1≤n+k by omega);refine⟨h1.quota,h1.refused,h1.arm,h1.acts,h1.now,fun x hx=> ?_⟩;rcases Adf.1 hx with hx | hx
    · have:=h.files x hx;omega
    · rw[AcY.1 hx];show b.length≤_;omega
theorem DBd.appendK{n k:Nat}{D:Ae}(h:DBd n D)(s:List UInt8){b:List UInt8}(hk:1≤k)(hb:b.length≤300*k):DBd (n+k) (A5 D s b).1:=by
  unfold A5;split
  · exact h.mono (Ae6 _ _)
  · split
    · have h2:=h.mono (Ae6 n k);have:=h.refused;exact⟨h2.quota,by show D.refused+1≤_;omega,h2.arm,h2.acts,h2.now,h2.files⟩
    · split
      · exact h.armed.mono (Ae6 _ _)
      · exact h.armed.addK s hk hb
theorem MB{l:List Bs}{i:Nat}(h:i<l.length):l.drop i=l.getD i ([]:List UInt8) :: l.drop (i+1):=by
  rw[AcO,AcS h,AdI];exact Ad3 h
def BQ(D:Ae):List Bs→Ae × Nat
  | []=>(D,0)
  | s :: r=>if(BA D s).2≠0 then BA D s else BQ (BA D s).1 r
theorem F8(D:Ae)(s:Bs)(r:List Bs):BQ D (s :: r)=if(BA D s).2≠0 then BA D s else BQ (BA D s).1 r:=rfl
theorem DBd.drops{m:Nat}{D:Ae}(h:DBd m D)(l:List Bs):DBd (m+l.length) (BQ D l).1:=by
  induction l generalizing m D with
  | nil=>exact h
  | cons s r ih=>
    rw[F8,Adh];have h1:=h.drop s;split
    · exact h1.mono (by omega)
    · exact(ih h1).mono (by omega)
def FQ(D:Ae)(b:Bs):Ae × Bool × Nat:=
  if(A5 D (Ax b) b).2≠0 then((A5 D (Ax b) b).1,false,(A5 D (Ax b) b).2)
  else((BG (A5 D (Ax b) b).1 (Ax b)).1,true,(BG (A5 D (Ax b) b).1 (Ax b)).2)
def Gz(x:Ae × Nat)(b:Bs):Ae × Bool × Nat:=if x.2≠0∧x.2≠4 then(x.1,false,x.2)else FQ x.1 b
def AH(D:Ae)(b:Bs):Ae × Bool × Nat:=
  if(Ap D (Ax b)).2=0∧(Ap D (Ax b)).1=b then((BG D (Ax b)).1,false,(BG D (Ax b)).2)
  else if(Ap D (Ax b)).2=0∧Ax (Ap D (Ax b)).1=Ax b then(D,false,7)
  else Gz (if(Ap D (Ax b)).2=0 then BA D (Ax b)else(D,(Ap D (Ax b)).2)) b
section
variable {D : Ae} {b : Bs}
theorem RE(h0:(Ap D (Ax b)).2=0)(h1:(Ap D (Ax b)).1=b):AH D b=((BG D (Ax b)).1,false,(BG D (Ax b)).2):=if_pos ⟨h0,h1⟩
theorem RF(h1:¬(Ap D (Ax b)).1=b)(h0:(Ap D (Ax b)).2=0)(h2:Ax (Ap D (Ax b)).1=Ax b):AH D b=(D,false,7):=(if_neg fun q=>h1 q.2).trans (if_pos ⟨h0,h2⟩)
theorem Fg(h1:¬(Ap D (Ax b)).1=b)(h0:(Ap D (Ax b)).2=0)(h2:¬Ax (Ap D (Ax b)).1=Ax b):AH D b=Gz (BA D (Ax b)) b:=((if_neg fun q=>h1 q.2).trans (if_neg fun q=>h2 q.2)).trans (congrArg (Gz · b) (if_pos h0))
theorem F9(h0:¬(Ap D (Ax b)).2=0):AH D b=Gz (D,(Ap D (Ax b)).2) b:=((if_neg fun q=>h0 q.1).trans (if_neg fun q=>h0 q.1)).trans (congrArg (Gz · b) (if_neg h0))
end
def MC:Af7:=⟨fun | 7=>84 | 10=>138 | n=>n,fun | 23=>84 | 26=>9 | 3=>89 | 28=>111 | 0=>0 | 27=>110 | 33=>139 | 4=>4 | n=>n,fun | n=>n⟩
theorem Wx:Aiw AcM MC:= {
  mixed:=by kernel_rfl
  f7:=⟨Tryz.f84.name,by decide,Tryz.func84.trans (congrArg some (by kernel_rfl))⟩
  f10:=⟨Tryz.f138.name,by decide,Tryz.func138.trans (congrArg some (by kernel_rfl))⟩
  t0:=Agk
  a0:=Aho
  z0:=Ag6
  v0:=Agt
  t4:=Agj
  a4:=Aif
  z4:=AhV
  v4:=Ag5
  t23:=Tryz.underlying84
  a23:=Tryz.isAgg84
  z23:=Tryz.sizeOf84
  v23:=Tryz.zeroValue84
  t26:=Afh
  a26:=Agp
  z26:=Af8
  v26:=Afp
  t27:=Tryz.underlying110
  a27:=Tryz.isAgg110
  z27:=Tryz.sizeOf110
  v27:=Tryz.zeroValue110
  t28:=Ahp
  a28:=AiB
  z28:=Ail
  v28:=AhC
  t33:=Tryz.underlying139
  a33:=Tryz.isAgg139
  z33:=Tryz.sizeOf139
  v33:=Tryz.zeroValue139 }
open Go.RowKit Go.Shelf
theorem TG(w:AcK)(b:Nat):Calls AcM 84 #[.map (some b)] w fun e w' =>e = .returned (.func (.func 138) #[] #[.pointer (some ⟨w.heap.size,0,none⟩)])∧w' =w.alloc (.cells #[.map (some b)] 84):=by
  have h:=AnyZ.keys_in Wx AfY 5 trivial rfl (some b) w;exact callsIn_wide.1 h
theorem Oo{l ss:List (List UInt8)}(h:SortS l)(hp:ss.Perm l):ss.mergeSort (fun x y=>decide (x≤y))=l:=by
  have h1:=mergeSort_of_perm hp;refine h1.trans (Ahw ?_);refine List.Pairwise.imp (fun {a b} q=> ?_) h;rw[bytesLess_eq,decide_eq_true_eq]at q;simp only[decide_eq_true_eq];exact List.le_of_lt q
set_option maxHeartbeats 1000000 in
theorem Pn(w w2:AcK){b:Nat}{ev:Nat→AcJ}{G:List UInt8→Option Nat}{l:List (List UInt8)}(hw:w2=w.alloc (.cells #[.map (some b)] 84))(h:MapF St ev Nm w b G)(hl:SortS l)(hG:∀s,(G s).isSome=true↔s∈l)(hlen:l.length<1099511627776):
    Calls AcM 58 #[.func (.func 138) #[] #[.pointer (some ⟨w.heap.size,0,none⟩)]] w2 fun e w' =>∃v,e = .returned v∧OG w2.heap.size 9 1 CX w' v l∧Ext w2 w' :=by
  subst hw;obtain⟨D0,hown,hperm,hsize⟩:=h.owns (P:=AcM) (k:=9) (by kernel_rfl) (fun a q=>AcN q (by decide)) (keys:=l) (SortS.nodup hl) hG (by simp only[maxLen];omega);have hbl:=hown.lt;have hseq:SeqGives AfY 2 AcM 138 #[.pointer (some ⟨w.heap.size,0,none⟩)] encStr (fun ss=>ss.Perm (strKeys D0)) (Maps.size D0) (w.alloc (.cells #[.map (some b)] 84)):=
    AnyZ.keys_gives (ρ:=MC) { Wx with } AfY _ trivial rfl (by omega) w.heap.size b _ D0 _ (by simp) (by simp) (by
      obtain⟨es,clock,hb,Ft,hs,hD⟩:=hown;exact⟨es,clock,(Below.heap_alloc _ _ b hbl).trans hb,Ft,hs,hD⟩)
  have hS:=AnyZ.sorted_in PS AfY 5 trivial trivial trivial trivial rfl (by omega) (Te _) (enters_of Tryz.func103 (by kernel_rfl) rfl) 138 #[.pointer (some ⟨w.heap.size,0,none⟩)] trivial (enters_of Tryz.func138 (by kernel_rfl) rfl) _ _ (by rw[hsize];simp only[maxLen];omega) (by rw[hsize];omega) _ hseq;refine(callsIn_wide.1 hS).mono fun e w' q=> ?_;obtain⟨v,ss,he,hp,hrow,-,hB⟩:=q;refine⟨v,he,⟨fun _ _=>rfl,?_⟩,hB⟩;have hs:=Oo hl (hp.trans hperm);rw[hs]at hrow;rw[N8];have hlen:ss.length=l.length:=(hp.trans hperm).length_eq;rw[hlen]at hrow;exact hrow
def dPkL:Bs × AU:=([],[],fun _=>none)
def GoodL(L:AN):Prop:=∀e∈L,∃b,B4 b = .ok e.2∧e.1=Ax b
theorem RH(D:Ae):GoodL (GT D):=fun e he=>by
 unfold GT at he;obtain⟨s,hs,h⟩:=AeI.1 he;cases hv:Hs D s with
 | none=>rw[Ey,hv]at h;cases h
 | some p=>
  have a:e=(s,p):=by rw[Ey,hv]at h;exact(Adu h).symm
  subst a;unfold Hs at hv;split at hv
  ·rename_i p1 ho
   split at hv
   ·rename_i q
    cases hv;exact⟨_,ho,q.symm⟩
   ·cases hv
  ·cases hv
theorem GoodL.at_{L:AN}(h:GoodL L){i:Nat}(hi:i<L.length)(id:Bs):(Cx (some (L.getD i dPkL).2) id).1.1.length≤4194304:=by
 obtain⟨b,hb,-⟩:=h _ (getD_mem dPkL hi);have g:=Rt hb;show(match (L.getD i dPkL).2.2 id with | none=>_ | some x=>_:(Bs × Nat)× Nat).1.1.length≤_;cases e:(L.getD i dPkL).2.2 id with
 | none=>exact Adm _
 | some x=>exact(g.any id x e).2.1
theorem Oq{L:AN}{i:Nat}(hi:i<L.length):(L.map Adk).getD (i) ([]:List UInt8)=(L.getD i dPkL).1:=by
 rw[AcO,AcO,Aej,AcS hi];rfl
theorem LP(b:Bs):(Ax b).length=66:=by
 unfold Ax;rw[AcQ,CU,Sha.sum_length];rfl
theorem GoodL.nm{L:AN}(h:GoodL L){i:Nat}(hi:i<L.length):((L.map Adk).getD (i) ([]:List UInt8)).length≤80:=by
 rw[Oq hi];obtain⟨b,-,hb⟩:=h _ (getD_mem dPkL hi);rw[hb,LP];decide
theorem Xz{L:AN}{ptr:Bs→Nat}(hs:SortS (L.map Adk)){i:Nat}(hi:i<L.length):pkG L ptr ((L.map Adk).getD (i) ([]:List UInt8))=some (ptr ((L.map Adk).getD (i) ([]:List UInt8))):=by
 rw[Oq hi];exact Yr hs hi
theorem PksAt.idx{Q:Nat→Prop}{w:AcK}{L:AN}{ptr:Bs→Nat}(h:PksAt Q w L ptr){i:Nat}(hi:i<L.length):PackP Q w (pN (ptr ((L.map Adk).getD (i) ([]:List UInt8)))) (L.getD i dPkL).2:=by
 rw[Oq hi];exact h _ (getD_mem dPkL hi)
theorem JT(L M:AN)(id:Bs)(h:AA L id=none):AA (L++M) id=AA M id:=by
 unfold AA at h ⊢;rw[List.findSome?_append,h];rfl
theorem M5{L:AN}{i:Nat}(hi:i<L.length)(id:Bs)(h:AA (L.take i) id=none):AA L id=AA (L.getD i dPkL :: L.drop (i+1)) id:=by
 have e:L=L.take i++(L.getD i dPkL :: L.drop (i+1)):=by
  rw[AcO,AcS hi,AdI,←Ad3 hi,Afb]
 rw[show AA L id=AA (L.take i++(L.getD i dPkL :: L.drop (i+1))) id from congrArg (AA · id) e];exact JT _ _ id h
theorem TH{p:AU}{id:Bs}(h:¬(Cx (some p) id).2=0):p.2 id=none:=by
 cases e:p.2 id with
 | none=>rfl
 | some x=>exact absurd (show(match p.2 id with | none=>_ | some x=>_:(Bs × Nat)× Nat).2=0 by rw[e]) h
theorem TI{p:AU}{id:Bs}(h:(Cx (some p) id).2=0):∃x,p.2 id=some x∧(Cx (some p) id).1=x:=by
 cases e:p.2 id with
 | none=>
  have:(Cx (some p) id).2=12:=show(match p.2 id with | none=>_ | some x=>_:(Bs × Nat)× Nat).2=12 by rw[e]
  rw[this]at h;cases h
 | some x=>exact⟨x,rfl,show(match p.2 id with | none=>_ | some x=>_:(Bs × Nat)× Nat).1=x by rw[e]⟩
theorem Yv{L:AN}{i:Nat}{id:Bs}(h:AA (L.take i) id=none)(hi:i<L.length)(hg:(Cx (some (L.getD i dPkL).2) id).2=0):AA L id=some (Cx (some (L.getD i dPkL).2) id).1.1:=by
 obtain⟨x,h1,h2⟩:=TI hg;rw[M5 hi id h,h2];unfold AA;rw[Ahe,h1];rfl
theorem XA{L:AN}{i:Nat}{id:Bs}(h:AA (L.take i) id=none)(hi:i<L.length)(hg:¬(Cx (some (L.getD i dPkL).2) id).2=0):AA (L.take (i+1)) id=none:=by
 rw[Adi hi,JT _ _ id h];have e:=TH hg;rw[AcO,AcS hi,AdI]at e;unfold AA;rw[Ahe,e];rfl
theorem P1{D:Ae}{L:AN}{id:Bs}(h:(AA L id).isSome=true):getV D L id=((AA L id).getD [],0):=by
 unfold getV;cases e:AA L id with
 | none=>rw[e]at h;cases h
 | some b=>rfl
theorem Or{D:Ae}{L:AN}{id:Bs}(h:(AA L id).isSome=false):getV D L id=BH D id:=by
 unfold getV;cases e:AA L id with
 | none=>rfl
 | some b=>rw[e]at h;cases h
theorem Jw{D:Ae}{b:List UInt8}{r:Ae × List UInt8 × List UInt8 × Nat}(h:BT D b=r):r.2.1.length=32:=by
 have hf:∀x:Ae × Nat,(DK x (Sha.sum b)).2.1.length=32:=fun x=>by
  unfold DK;split
  ·rfl
  ·exact Sha.sum_length b
 subst h;unfold BT;split
 ·exact hf _
 split
 ·rfl
 split
 ·exact hf _
 split
 ·exact Sha.sum_length b
 ·exact hf _
theorem XB{D:Ae}{L:AN}{b:Bs}(h:b.length≤300)(hc:(AA L (Sha.sum b)).isSome=true)(hn:(AA L (Sha.sum b)).getD []≠b):DC D L b=(D,Sha.sum b,(AA L (Sha.sum b)).getD [],7):=by
 unfold DC;rw[if_neg (by omega)];cases e:AA L (Sha.sum b)with
 | none=>rw[e]at hc;cases hc
 | some x=>rw[e]at hn;exact if_neg hn
theorem XC{D:Ae}{L:AN}{b:Bs}(h:b.length≤300)(hc:(AA L (Sha.sum b)).isSome=true)(hn:¬(AA L (Sha.sum b)).getD []≠b):DC D L b=(D,Sha.sum b,[],0):=by
 unfold DC;rw[if_neg (by omega)];cases e:AA L (Sha.sum b)with
 | none=>rw[e]at hc;cases hc
 | some x=>rw[e]at hn;exact if_pos (Afu.1 hn)
theorem Vr{D:Ae}{L:AN}{b:Bs}(h:b.length≤300)(hc:(AA L (Sha.sum b)).isSome=false):DC D L b=BT D b:=by
 unfold DC;rw[if_neg (by omega)];cases e:AA L (Sha.sum b)with
 | none=>rfl
 | some x=>rw[e]at hc;cases hc
theorem Ll:AV AcM 86 1 1:=fun b o w=>by simp[go_sem]
theorem Kn:Tryz.prog.underlying 84=some (.map 9 89):=by kernel_rfl
theorem Vs:Plain AcM 84:=fun _ _=>by kernel_rfl
theorem Vt:Plain AcM 85:=fun _ _=>by kernel_rfl
theorem Ot:Tryz.prog.underlying 28=some (.pointer 86):=by kernel_rfl
theorem Ou:Plain AcM 46:=fun _ _=>by kernel_rfl
theorem Lm:AV AcM 86 0 0:=fun b o w=>by simp[go_sem]
theorem Vu:Plain AcM 15:=fun _ _=>by kernel_rfl
theorem Vv:Plain AcM 47:=fun _ _=>by kernel_rfl
theorem MD(w:AcK)(n:Nat)(Q:Nat→Prop)(gv gd bm:Nat)(L:AN)(ptr:Bs→Nat)(hV:VtAt n Q w gv gd bm L ptr)(hgL:GoodL L)(hLn:L.length≤100000)(id:List UInt8)(hid:id.length=32):
  Calls AcM 46 #[PQ gv 0,AB id] w fun e w' =>∃v,e = .returned (.tuple #[v, .bool (AA L id).isSome])∧w'.ownsRow w.heap.size 5 1 v ((AA L id).getD []).length (AcL ((AA L id).getD []))∧Ext w w' :=by
 have hvb:=hV.blk;have hvm:=hV.map;have hpk:=hV.pk;have hsrt:=hV.sort;have hV0:=hV;refine gG (args:= [PQ gv 0,AB id]) Tryz.func46 rfl 36 rfl rfl ?_;have hE:=Ext.refl w;refine gS (Yk.box (vr (AB id) rfl) fun l m t u o al=> ?_);have am:=As hvm.lt t;have c:=u;clear u;have an:l<m.heap.size:=by omega
 have ao:=As (bl hvb) t;have hvb:=eb o hvb;refine gS (Yk.nilCheck rfl (gS (Yk.fieldAt Ll rfl (gS (Zu Kn rfl rfl (cellAt hvb rfl) ?_)))));have hvm:=hvm.keep o;have hm1:=hvm;refine gS (ZA Vs rfl ((TG _ _).mono ?_));rintro e x ⟨rfl,hwk⟩;refine⟨_,rfl,?_⟩;have hxk:Ext m x:=by rw[hwk];exact(AdC _ _).alloc (AcP _) _
 refine gS (ZA U3 rfl ((Pn m x hwk hm1 hsrt pkG_iff (by rw[Ada];omega)).mono ?_));rintro e ap ⟨y,rfl,ag,aa⟩;refine⟨_,rfl,?_⟩;have hE:=hE.trans (o.trans hxk);have aq:=hE.size;have f:=ZG ag;have hZ1:=hxk.trans aa;have hvb:=eb hZ1 hvb;have hvm:=hvm.keep hZ1;have c:=eb hZ1 c;have hE:=hE.trans aa;refine gS (ZI N9 (ZC f rfl) (gL (fun(ρ:Ad) (wz:AcK)=>∃i:Nat,ρ 0=(PQ gv 0:AcJ)∧ρ 1=(AB id:AcJ)∧ρ 3=(PQ l 0:AcJ)∧ρ 15=(y:AcJ)∧ρ 16=(NI (((L.map Adk)).length):AcJ)∧ρ 17=(NI i:AcJ)∧wz.heap[gv]? =some (.cells ([PQ gd 0, .map (some bm)]).toArray 86 (0,0))∧MapF St pN Nm wz bm (pkG L ptr)∧Ext w wz∧wz.heap[l]? =some (.cells (AcL id).toArray 33 (0,0))∧RG 1 (CX) wz y (L.map Adk)∧(i≤L.length)∧(AA (L.take i) id=none)∧True) (fun ρ _=>L.length-(intOf (ρ 17)).toNat) ⟨0,rfl,rfl,rfl,rfl,rfl,rfl,hvb,hvm,hE,c,f,Adm _,rfl,trivial⟩ ?_));clear hvb hvm hE c f;rintro ah ar ⟨i,T0,T1,T3,ad,ae,k,hvb,hvm,hE,c,f,hil,hno,-⟩;have q17:=k;refine gS (Zv (a:=(i:Nat)) (b:=(((L.map Adk)).length:Nat)) k ae (AI _ _ _ _) ?_);refine cD rfl (fun p=> ?_) fun p=> ?_
 ·have hlt:i<(L.map Adk).length:=p;have hli:i<L.length:=by rw[Ada]at hlt;exact hlt
  have hgd:=hgL.at_ hli id;have au:(CX (((L.map Adk)).getD (i) ([]:List UInt8))).length=1:=(RG.elem f ([]:List UInt8) (hlt));refine gS (ZO N9 UR (by decide) ([]:List UInt8) (ZC f ad) k (hlt) fun av af=>(gS (ZL PO rfl (PR.cell (ZT af rfl) rfl) ?_)));clear af;refine CD [0,1,2,3,4,5,6,7,8,9,10,11,12] [7] [] fun aj j=> ?_;have hvb:=eb j hvb;have hvm:=hvm.keep j;have c:=eb j c;refine ys (Yk.nilCheck T0 zz) (ys (Yk.fieldAt Ll rfl zz) (ys (Zu Kn rfl rfl (cellAt hvb rfl) zz) (ys (Aaq (ek:=St) (ev:=pN) (D:=Nm) Fp Ew (fun _ _=>C5) Kn (z:= .pointer none) RA rfl rfl hvm (hgL.nm hli) (Xz hsrt hli) zz) (ys (Zz T3 c Wq rfl (by exact Ac hid) zz) ?_))));have hE:=hE.trans j;have hsz_:=(hE).size;refine yC (Zx Vt rfl rfl ((UI _ (pN (ptr ((L.map Adk).getD (i) ([]:List UInt8)))) (some (L.getD i dPkL).2) (PksAt.idx (hpk.keep hE) hli).opt id hid (AfW hgd (by decide))).mono ?_));rintro e aw ⟨q,rfl,ak,g⟩;refine⟨_,rfl,?_⟩;have r:=Ext.refl aj;have ax:=hE.size;refine ys (Yk.extract (vs:= [q,NI ((Cx (some (L.getD i dPkL).2) id).2)]) rfl rfl zz) (ys (Yk.extract (vs:= [q,NI ((Cx (some (L.getD i dPkL).2) id).2)]) rfl rfl zz) (gS (Zv (a:=((Cx (some (L.getD i dPkL).2) id).2:Nat)) (b:=(0:Nat)) rfl rfl (AF _ _ _ _) ?_)));refine cD rfl (fun s=> ?_) fun s=> ?_
  ·have hpP:=Yv hno hli s;refine BF rfl (vr q rfl) (vr (.bool (true)) rfl) ?_;have hE:=hE.trans g;exact⟨_,by rw[hpP];rfl,by rw[hpP];exact BL ak (by omega),hE⟩
  have f:=f.keep j;have hvb:=eb g hvb;have hvm:=hvm.keep g;have hE:=hE.trans g;have c:=eb g c;have r:=r.trans g;refine gS (Zw (xv:=NI i) (yv:=NI 1) k rfl rfl (Ag _ _ _ (by omega)) (gK (Adr ⟨i+1,T0,T1,T3,ad,ae,rfl,hvb,hvm,hE,c,(f.keep r),by omega,XA hno hli s,trivial⟩ ?_)));show L.length-(intOf (NI ((i)+(1)))).toNat<L.length-(intOf (ah 17)).toNat;rw[q17];simp only[intOf,Ac0];omega
 have hie:i=L.length:=by have h:=p;rw[Ada]at h;omega
 have hpP:AA L id=none:=by rw[hie,Ad6]at hno;exact hno
 refine BF rfl (vr (AcU none 0 0) rfl) (vr (.bool (false)) rfl) ?_;exact⟨_,by rw[hpP];rfl,by rw[hpP];exact AdK _ _ _ 1,hE⟩

theorem LQ(wb w:AcK)(g:Nat)(H:Dk)(D:Ae)(hD:DkG wb w g H D)(hG:Laid wb)(hL:Df D)(n:Nat)(gv bm:Nat)(L:AN)(ptr:Bs→Nat)(hV:VtAt n (Cd H D) w gv g bm L ptr)(hgL:GoodL L)(hLn:L.length≤100000)(id:List UInt8)(hid:id.length=32):
  Calls AcM 15 #[PQ gv 0,AB id] w fun e w' =>∃v,e = .returned (.tuple #[v,NI (getV D L id).2])∧RB w' v (getV D L id).1∧Ext w w' ∧NewI w.heap.size w' v:=by
 have hvb:=hV.blk;have hvm:=hV.map;have hpk:=hV.pk;have hsrt:=hV.sort;have hV0:=hV;refine gG (args:= [PQ gv 0,AB id]) Tryz.func15 rfl 26 rfl rfl ?_;have hE:=Ext.refl w;refine gS (Yk.box (vr (AB id) rfl) fun p j l m f x=> ?_);have y:=As hvm.lt l;have b:=m;clear m;have z:p<j.heap.size:=by omega
 refine gS (ZR Ot rfl (cF rfl (gS (Zz rfl b Wq rfl (by exact Ac hid) ?_))));have hE:=hE.trans f;have hszp_:=(hE).size;refine gS (Zx Ou rfl rfl ((MD _ n (Cd H D) gv g bm L ptr (hV0.keep hE) hgL hLn id hid).mono ?_));rintro e aa ⟨c,rfl,h,o⟩;refine⟨_,rfl,?_⟩;have ab:=As (bl hvb) l;have hvb:=eb f hvb;have hvm:=hvm.keep f;have hpnew:∀k,AcT c=some k→j.heap.size≤k:=fun k hk=>(h.lt k hk).1;have hpn:=(AaW h).low hszp_;have q:=ZP h;refine gS (Yk.extract (vs:= [c, .bool ((AA L id).isSome)]) rfl rfl (gS (Yk.extract (vs:= [c, .bool ((AA L id).isSome)]) rfl rfl ?_)));refine cB ((AA L id).isSome) rfl (fun a=> ?_) fun a=> ?_
 ·refine BF rfl (vr c rfl) (vr (NI 0) rfl) ?_;have hE:=hE.trans o;exact⟨_,by rw[P1 a],by rw[P1 a];exact q,hE,hpn⟩
 refine CD [0,1,2,3,4,5,6,7,8,9] [5] [] fun ac r=> ?_;have hZ1:=o.trans r;have hvb:=eb hZ1 hvb;have b:=eb hZ1 b;refine ys (Yk.nilCheck rfl zz) (ys (Yk.fieldAt Lm rfl zz) (ys (Zu UQ rfl rfl (cellAt hvb rfl) zz) (ys (Zz rfl b Wq rfl (by exact Ac hid) zz) ?_)));have hE:=hE.trans hZ1;have hszl_:=(hE).size;refine yC (Zx Ve rfl rfl ((PW wb _ g H D (hD.keep hE) hG hL id hid).mono ?_));rintro e ad ⟨i,rfl,s,t,u⟩;refine⟨_,rfl,?_⟩;have hvn:=NewI.low u hszl_;refine ys (Yk.extract (vs:= [i,NI ((BH D id).2)]) rfl rfl zz) (ys (Yk.extract (vs:= [i,NI ((BH D id).2)]) rfl rfl zz) (BF rfl (vr i rfl) (vr (NI ((BH D id).2)) rfl) ?_));have hE:=hE.trans t;exact⟨_,by rw[Or a],by rw[Or a];exact s,hE,hvn⟩

theorem XD(wb w:AcK)(g:Nat)(H:Dk)(D:Ae)(hD:DkG wb w g H D)(hG:Laid wb)(hL:Df D)(n:Nat)(gv bm:Nat)(L:AN)(ptr:Bs→Nat)(hV:VtAt n (Cd H D) w gv g bm L ptr)(hgL:GoodL L)(hLn:L.length≤100000)(id:List UInt8)(hid:id.length=32):
  Calls AcM 17 #[PQ gv 0,AB id] w fun e w' =>e = .returned (.bool (decide ((getV D L id).2=0)))∧Ext w w' :=by
 have hvb:=hV.blk;have hvm:=hV.map;have hpk:=hV.pk;have hsrt:=hV.sort;have hV0:=hV;refine gG (args:= [PQ gv 0,AB id]) Tryz.func17 rfl 15 rfl rfl ?_;have hE:=Ext.refl w;refine gS (Yk.box (vr (AB id) rfl) fun h i j c k o=> ?_);have p:=As hvm.lt j;have l:=c;clear c;have q:h<i.heap.size:=by omega
 have hE:=hE.trans k;refine gS (Zz rfl l Wq rfl (by exact Ac hid) (gS (Zx Vu rfl rfl ((LQ wb _ g H D (hD.keep hE) hG hL n gv bm L ptr (hV0.keep hE) hgL hLn id hid).mono ?_))));rintro e r ⟨f,rfl,s,m,-⟩;refine⟨_,rfl,?_⟩;refine gS (Yk.extract (vs:= [f,NI ((getV D L id).2)]) rfl rfl (gS (Yk.extract (vs:= [f,NI ((getV D L id).2)]) rfl rfl (gS (Zv (a:=((getV D L id).2:Nat)) (b:=(0:Nat)) rfl rfl (AF _ _ _ _) (Bb rfl (vr (.bool (decide (((getV D L id).2:Nat)=(0)))) rfl) ?_))))));have hE:=hE.trans m;exact⟨rfl,hE⟩

theorem XE(wb w:AcK)(g:Nat)(H:Dk)(D:Ae)(hD:DkG wb w g H D)(hG:Laid wb)(hL:Df D)(n:Nat)(gv bm:Nat)(L:AN)(ptr:Bs→Nat)(hV:VtAt n (Cd H D) w gv g bm L ptr)(hgL:GoodL L)(hLn:L.length≤100000)(vb:AcJ)(b:List UInt8)(hr:RB w vb b)(hoff:b= []∨∀i,vb.ownBlock=some i→¬BZ H D.files.length i)(hbl:b.length≤300)(m:Nat)(hB:DBd m D)(hm:m≤99000):
  Calls AcM 14 #[PQ gv 0,vb] w fun e w' =>∃H' vo,e = .returned (.tuple #[AB ((DC D L b).2.1),vo,NI (DC D L b).2.2.2])∧RB w' vo (DC D L b).2.2.1∧DkW wb w g H D w' H' (DC D L b).1∧∀k,AcT vo=some k→w.heap.size≤k:=by
 have hvb:=hV.blk;have hvm:=hV.map;have hpk:=hV.pk;have hsrt:=hV.sort;have hV0:=hV;refine PB (args:= [PQ gv 0,vb]) Tryz.func14 rfl 50 rfl rfl ?_;have hE:=Ext.refl w;refine gS (Yk.alloc Ur fun f w3 z aa ab au=> ?_);have av:=As hvm.lt z;have c:=aa;clear aa;have aw:f<w3.heap.size:=by omega
 have hwb:=hD.ext.size;have hE:=hE.trans ab;refine gS (ZR Ot rfl (cF rfl (gS (ZF Gj (ZB (hr.keep hE) rfl) (gS (Zv (a:=(b.length:Nat)) (b:=(262144:Nat)) rfl rfl (Bh _ _ _ _) (kF (by omega) (cF rfl (gS (Aae Gm (ZB (hr.keep hE) (vr vb rfl)) fun am ax ac s=> ?_))))))))));have hE:=hE.trans s;refine gS (ZA J8 rfl ((Gx _ (hG.keep ((hD.keep hE)).ext) am b ac (by omega)).mono ?_));rintro e ay ⟨rfl,t⟩;refine⟨_,rfl,?_⟩;have c:=eb (s.trans t) c;refine gS (Zy (vr (PQ f 0) rfl) (vr (AB (Sha.sum b)) rfl) c (by exact Bn (Sha.sum_length _) Ac7) (by exact Ac (Sha.sum_length _)) (Af _) fun an ad u az=> ?_);have hZ1:=(ab.trans s).trans t;have hvm:=hvm.keep hZ1;have hvm:=MapF.other hvm u (Ak (by omega));clear ac;clear c;have c:=ad;clear ad;have a0:=bl c;refine gS (Zz rfl c Wq rfl (by exact Ac (Sha.sum_length _)) ?_);have hE:=hE.trans t;have hE:=Ab hE u (AcN (AcP _) (by omega));have hszp_:=(hE).size;refine gS (Zx Ou rfl rfl ((MD _ n (Cd H D) gv g bm L ptr (hV0.keep hE) hgL hLn (Sha.sum b) (Sha.sum_length _)).mono ?_));rintro e ao ⟨j,rfl,r,h⟩;refine⟨_,rfl,?_⟩;have a1:=As (bl hvb) z;have hvb:=eb hZ1 hvb;have hvb:=kb u hvb (by omega);have ap:OB j f:=Dp r (bl c);have hpnew:∀k,AcT j=some k→an.heap.size≤k:=fun k hk=>(r.lt k hk).1;have hpn:=(AaW r).low hszp_;have o:=ZP r;refine gS (Yk.extract (vs:= [j, .bool ((AA L (Sha.sum b)).isSome)]) rfl rfl (gS (Yk.extract (vs:= [j, .bool ((AA L (Sha.sum b)).isSome)]) rfl rfl ?_)));rcases AfF (AA L (Sha.sum b)).isSome with hc | hc
 ·have hE:=hE.trans h;refine gY rfl (vr (.bool (true)) ((show _=Adl (AA L (Sha.sum b)).isSome from rfl).trans (congrArg Adl hc))) (gY rfl (vr (.bool (true)) ((show _=Adl (AA L (Sha.sum b)).isSome from rfl).trans (congrArg Adl hc))) (gS (Z3 Gj u5 PO (ZB o rfl) (gY rfl (vr (.bool (true)) ((show _=Adl (AA L (Sha.sum b)).isSome from rfl).trans (congrArg Adl hc))) (gY rfl (vr (.bool (true)) ((show _=Adl (AA L (Sha.sum b)).isSome from rfl).trans (congrArg Adl hc))) (gS (Z3 Gj u5 PO (ZB (hr.keep hE) rfl) (gY rfl (vr (.bool (true)) ((show _=Adl (AA L (Sha.sum b)).isSome from rfl).trans (congrArg Adl hc))) (gS (Aao (l:=((AA L (Sha.sum b)).getD [])) (m:=b) (.inr rfl) rfl rfl (decide (((AA L (Sha.sum b)).getD [])≠b)) rfl (gS (ZE (vr (.bool (true)) ((show _=Adl (AA L (Sha.sum b)).isSome from rfl).trans (congrArg Adl hc))) rfl ?_))))))))))));refine cD rfl (fun v=> ?_) fun v=> ?_
  ·have c:=eb h c;refine gS (Zz rfl c Wq rfl (by exact Ac (Sha.sum_length _)) (gS (Zy (vr (PQ f 0) rfl) (vr (AB (Sha.sum b)) rfl) c (by exact Bn (Sha.sum_length _) (Sha.sum_length _)) (by exact Ac (Sha.sum_length _)) (Af _) fun a2 ae x a3=> ?_)));have hvm:=hvm.keep h;have hvm:=MapF.other hvm x (Ak (by omega));clear hpn;clear c;have c:=ae;clear ae;have a4:=bl c;refine Iy rfl (ResF.row rfl c Wq rfl (by exact Ac (Sha.sum_length _))) (vr j rfl) (vr (NI 7) rfl) ?_;have hV:DC D L b=(D,Sha.sum b,((AA L (Sha.sum b)).getD []),7):=XB hbl hc v;have hE:=Ab hE x (AcN (AcP _) (by omega));have o:=RB.kept o x (.inr ap);exact⟨H,_,by rw[hV],by rw[hV];exact o,by rw[hV];exact Aaj hD hE,fun k hk=>by have:=hpnew k hk;omega⟩
  have c:=eb h c;refine cT (vr (.bool (true)) ((show _=Adl (AA L (Sha.sum b)).isSome from rfl).trans (congrArg Adl hc))) (gS (Zz rfl c Wq rfl (by exact Ac (Sha.sum_length _)) (gS (Zy (vr (PQ f 0) rfl) (vr (AB (Sha.sum b)) rfl) c (by exact Bn (Sha.sum_length _) (Sha.sum_length _)) (by exact Ac (Sha.sum_length _)) (Af _) fun a5 af ag a6=> ?_))));have hvm:=hvm.keep h;have hvm:=MapF.other hvm ag (Ak (by omega));clear hpn;clear c;have c:=af;clear af;have a7:=bl c;refine Iy rfl (ResF.row rfl c Wq rfl (by exact Ac (Sha.sum_length _))) (vr (AcU none 0 0) rfl) (vr (NI 0) rfl) ?_;have hV:DC D L b=(D,Sha.sum b,[],0):=XC hbl hc v;have hE:=Ab hE ag (AcN (AcP _) (by omega));exact⟨H,_,by rw[hV],by rw[hV];exact RB.nil _,by rw[hV];exact Aaj hD hE,fun k hk=>by cases hk⟩
 have hvb:=eb h hvb;refine gN rfl rfl (vr (.bool (false)) ((show _=Adl (AA L (Sha.sum b)).isSome from rfl).trans (congrArg Adl hc))) rfl (gN rfl rfl (vr (.bool (false)) ((show _=Adl (AA L (Sha.sum b)).isSome from rfl).trans (congrArg Adl hc))) rfl (gN rfl rfl (vr (.bool (false)) ((show _=Adl (AA L (Sha.sum b)).isSome from rfl).trans (congrArg Adl hc))) rfl (gN rfl rfl (vr (.bool (false)) ((show _=Adl (AA L (Sha.sum b)).isSome from rfl).trans (congrArg Adl hc))) rfl (gN rfl rfl (vr (.bool (false)) ((show _=Adl (AA L (Sha.sum b)).isSome from rfl).trans (congrArg Adl hc))) rfl (gS (ZH (vr (.bool (false)) ((show _=Adl (AA L (Sha.sum b)).isSome from rfl).trans (congrArg Adl hc))) rfl (cF rfl (cF (vr (.bool (false)) ((show _=Adl (AA L (Sha.sum b)).isSome from rfl).trans (congrArg Adl hc))) (gS (Yk.nilCheck rfl (gS (Yk.fieldAt Lm rfl (gS (Zu UQ rfl rfl (cellAt hvb rfl) ?_))))))))))))));have hE:=hE.trans h;have hWc:DkW wb w g H D ao H D:=Aaj hD hE;have c:=eb h c;have hl4_:=bl c;have hszc_:=(hE).size;refine gS (Zx Vv rfl rfl ((Xp wb _ g H D hWc.g hG vb b (hr.keep hE) hoff hbl m hB hm).mono ?_));rintro e ah ⟨H55,p,rfl,y,hW58,ai⟩;refine⟨_,rfl,?_⟩;have hWn:=hWc.trans hW58;have hnw_:=ai;have hvb:ah.heap[gv]? =some (.cells ([PQ g 0, .map (some bm)]).toArray 86 (0,0)):=DkG.box hWc.g hW58.chg hvb (by decide) (by decide) (by decide) (by decide);have c:ah.heap[f]? =some (.cells (AcL (Sha.sum b)).toArray 33 (0,0)):=DkG.box hWc.g hW58.chg c (by decide) (by decide) (by decide) (by decide);clear hvm;clear hE;clear hpn;clear o;have hW:=hWn;have aq:OB p f:=fun q=>by have:=ai _ q;omega
 refine gS (Yk.extract (vs:= [AB ((BT D b).2.1),p,NI ((BT D b).2.2.2)]) rfl rfl (gS (Yk.extract (vs:= [AB ((BT D b).2.1),p,NI ((BT D b).2.2.2)]) rfl rfl (gS (Yk.extract (vs:= [AB ((BT D b).2.1),p,NI ((BT D b).2.2.2)]) rfl rfl (gS (Zy (vr (PQ f 0) rfl) (vr (AB ((BT D b).2.1)) rfl) c (by exact Bn (Jw rfl) (Sha.sum_length _)) (by exact Ac (Jw rfl)) (Af _) fun ar aj ak a8=> ?_)))))));have hW:DkW wb w g H (D) ar H55 ((BT D b).1):=DkW.setT hW ak c (by omega) (by decide) (by decide) (by decide) (by decide) (by decide) (by decide) hwb;clear c;have c:=aj;clear aj;have a9:=bl c;refine Iy rfl (ResF.row rfl c Wq rfl (by exact Ac (Jw rfl))) (vr p rfl) (vr (NI ((BT D b).2.2.2)) rfl) ?_;have hV:DC D L b=BT D b:=Vr hbl hc;have y:=RB.kept y ak (.inr aq);exact⟨H55,_,by rw[hV],by rw[hV];exact y,by rw[hV];exact hW,fun k hk=>by have:=hnw_ k hk;omega⟩
theorem Fs{α:Type}(A X:List α)(n:Nat)(h:A.length≤n):(A++X).take n=A++X.take (n-A.length):=by
  rw[AhS,AdD h]
theorem H7{α:Type}(A X:List α)(n:Nat):(A++X).drop (A.length+n)=X.drop n:=by
  rw[AgW,AdR (by omega),AdS,show A.length+n-A.length=n by omega]
theorem TJ(s:Bs):(Bu s).length=(Ac4 s.length).length+s.length:=by simp[Bu]
theorem ME(A s X:Bs)(fin:Nat)(hs:s.length≤1048576)(h1:A.length+(Bu s).length≤fin):B3 (A++(Bu s++X)) A.length fin=some (s,A.length+(Bu s).length):=by
  have hl:=TJ s;have ht:(A++(Bu s++X)).take fin=A++(Ac4 s.length++(s++X.take (fin-A.length-(Bu s).length))):=by
    rw[Fs _ _ _ (by omega),Fs _ _ _ (by omega)];simp only[Bu,Adn]
  unfold B3;rw[ht,AeM,Ed _ (by omega)]
  dsimp only
  rw[if_neg (by omega),if_neg (by simp only[AcQ];omega)]
  congr 1
  rw[H7,AeM,Ae8];rw[hl,Ae2]
def entB(ps:List Pt)(i:Nat)(s:BS):Ent:=
  if(ps.getD i AC).base<0 then⟨s.b.length,false,AcX 32 0,(ps.getD i AC).bytes⟩
  else⟨s.b.length,true,s.ids.getD (ps.getD i AC).base.toNat [],B2 (ps.getD (ps.getD i AC).base.toNat AC).bytes (ps.getD i AC).bytes⟩
def En(ps:List Pt)(i:Nat)(s:BS):Bs:=
  if(ps.getD i AC).base<0 then [0]++Bu (ps.getD i AC).bytes
  else [1]++s.ids.getD (ps.getD i AC).base.toNat []++Bu (B2 (ps.getD (ps.getD i AC).base.toNat AC).bytes (ps.getD i AC).bytes)
theorem P2(ps:List Pt)(i:Nat)(s:BS):(bnext ps (ps.getD i AC) s).b=s.b++En ps i s:=by
  unfold bnext En
  dsimp only
  split <;> simp only[Adn]
theorem RI{ps:List Pt}(hL:Ct ps){i:Nat}(hi:i<ps.length){s:BS}(h:BOk i s)(hb:(ps.getD i AC).base<i)(X:Bs)(fin:Nat)(hf:s.b.length+(En ps i s).length≤fin):
    entOne (s.b++(En ps i s++X)) fin s.b.length=some (entB ps i s,s.b.length+(En ps i s).length):=by
  have hp:=hL.2 _ (getD_mem AC hi);by_cases hbase:(ps.getD i AC).base<0
  · have hc:En ps i s= [0]++Bu (ps.getD i AC).bytes:=if_pos hbase;have he:entB ps i s=⟨s.b.length,false,AcX 32 0,(ps.getD i AC).bytes⟩:=if_pos hbase;rw[hc]at hf ⊢;rw[he];have hg:(s.b++([0]++Bu (ps.getD i AC).bytes++X)).getD s.b.length 0=0:=by
      rw[AcO,AdB (AcP _),Aez];rfl
    have ht:=ME (s.b++ [0]) (ps.getD i AC).bytes X fin (by omega) (by simp only[AcQ]at hf ⊢;omega);have e:s.b++ [0]++(Bu (ps.getD i AC).bytes++X)=s.b++([0]++Bu (ps.getD i AC).bytes++X):=by simp only[Adn]
    rw[e,AcQ,Ac9]at ht;unfold entOne;rw[hg,if_pos ⟨by simp only[AcQ,Ac9]at hf;omega,by decide⟩,if_neg (by decide),ht,Aeb];simp only[AcQ,Ac9,Ae2]
  · have hc:En ps i s= [1]++s.ids.getD (ps.getD i AC).base.toNat []++Bu (B2 (ps.getD (ps.getD i AC).base.toNat AC).bytes (ps.getD i AC).bytes):=if_neg hbase;have he:entB ps i s=⟨s.b.length,true,s.ids.getD (ps.getD i AC).base.toNat [],B2 (ps.getD (ps.getD i AC).base.toNat AC).bytes (ps.getD i AC).bytes⟩:=if_neg hbase;have a:(ps.getD i AC).base.toNat<s.ids.length:=by rw[h.ids];omega
    have h32:=h.len _ (getD_mem [] a);have hq:=hL.2 _ (getD_mem AC (l:=ps) (i:=(ps.getD i AC).base.toNat) (by rw[h.ids]at a;omega));have hm:=IH (ps.getD (ps.getD i AC).base.toNat AC).bytes (ps.getD i AC).bytes (by omega) (by omega);rw[hc]at hf ⊢;rw[he]
    generalize B2 (ps.getD (ps.getD i AC).base.toNat AC).bytes (ps.getD i AC).bytes=m at hm hf ⊢
    generalize s.ids.getD (ps.getD i AC).base.toNat []=id at h32 hf ⊢
    have hg:(s.b++([1]++id++Bu m++X)).getD s.b.length 0=1:=by
      rw[AcO,AdB (AcP _),Aez];rfl
    have ht:=ME (s.b++ [1]++id) m X fin (by omega) (by simp only[AcQ]at hf ⊢;omega);have e:s.b++ [1]++id++(Bu m++X)=s.b++([1]++id++Bu m++X):=by simp only[Adn]
    rw[e,AcQ,AcQ,Ac9,h32]at ht;have hd:((s.b++([1]++id++Bu m++X)).take fin).drop (s.b.length+1)=id++(Bu m++X.take (fin-s.b.length-1-id.length-(Bu m).length)):=by
      simp only[AcQ,Ac9]at hf;have c:s.b++([1]++id++Bu m++X)=s.b++([1]++(id++(Bu m++X))):=by simp only[Adn]
      rw[c,Fs _ _ _ (by omega),Fs [1] _ _ (by simp only[Ac9];omega),Fs id _ _ (by simp only[Ac9];omega),Fs (Bu m) _ _ (by simp only[Ac9];omega),H7];rfl
    unfold entOne;rw[hg,if_pos ⟨by simp only[AcQ,Ac9]at hf;omega,by decide⟩,if_pos rfl,if_neg (by simp only[AcQ,Ac9]at hf;omega),ht,Aeb,hd,←h32,Ae8];simp only[AcQ,Ac9,Ae2]
structure BInv (ps : List Pt) (i : Nat) (s : BS) (es : List Ent) : Prop where
  ok:BOk i s
  len:es.length=i
  ids:s.ids=(ps.take i).map fun p=>Sha.sum p.bytes
  nodup:s.ids.Nodup
  pos:es.map Ent.pos=s.places
  asc:s.places.Pairwise (· < ·)
  top:∀p∈s.places,p<s.b.length
  ent:∀X fin,s.b.length≤fin→Dg (s.b++X) fin (1+(Ac4 ps.length).length) i=some (es,s.b.length)
  flat:∀j,j<i→(ps.getD j AC).base<0→(es.getD j dEnt.1).based=false∧(es.getD j dEnt.1).bytes=(ps.getD j AC).bytes∧s.depths.getD j 0=0
  upon:∀j,j<i→¬(ps.getD j AC).base<0→(ps.getD j AC).base.toNat<j∧(es.getD j dEnt.1).based=true∧(es.getD j dEnt.1).base=s.ids.getD (ps.getD j AC).base.toNat []∧(es.getD j dEnt.1).bytes=B2 (ps.getD (ps.getD j AC).base.toNat AC).bytes (ps.getD j AC).bytes∧s.depths.getD j 0=s.depths.getD (ps.getD j AC).base.toNat 0+1
theorem Fh{α:Type}(l m:List α)(d:α){i:Nat}(h:i<l.length):(l++m).getD i d=l.getD i d:=by
  rw[AcO,AcO,AdF h]
theorem GV{α:Type}(l:List α)(x d:α){i:Nat}(h:l.length=i):(l++ [x]).getD i d=x:=by
  rw[AcO,AdB (by omega),h,Aez];rfl
theorem LR{ps:List Pt}(hL:Ct ps):∀(i:Nat) (s:BS),i≤ps.length→C4 ps i = .ok s→∃es,BInv ps i s es
  | 0,s,hi,h=>by
    have hk:=IN hL 0 s hi h;cases h;refine⟨[],hk,rfl,rfl,List.nodup_nil,rfl,AeN,(fun p hp=>by cases hp),fun X fin hf=> ?_,(fun j hj=>by omega),(fun j hj=>by omega)⟩;show some ([],_)=some ([],_);rw[Adh,AgB]
  | i+1,s,hi,h=>by
    have hk:=IN hL (i+1) s hi h;cases hb:C4 ps i with
    | error e=>rw[Fo hb 1]at h;cases h
    | ok s0=>
      rw[EW hb]at h;obtain⟨es,I⟩:=LR hL i s0 (by omega) hb;unfold EQ at h;split at h
      · cases h
      · split at h
        · cases h
        · split at h
          · cases h
          · rename_i h1 h2 h3
            cases h;have hbase:(ps.getD i AC).base<i:=by omega
            have hl:s0.ids.length=i:=I.ok.ids;have hd:s0.depths.length=i:=I.ok.depths;have hbn:=P2 ps i s0;have hcl:1≤(En ps i s0).length:=by unfold En;split <;> simp only[AcQ,Ac9] <;> omega
            refine⟨es++ [entB ps i s0],hk,by rw[AcQ,I.len];rfl,?_,?_,?_,?_,?_,?_,?_,?_⟩
            · show s0.ids++ [_]=_;rw[I.ids,Adi (by omega),Aei,List.map_singleton];rw[AcO,AcS (show i<ps.length by omega)];rfl
            · show(s0.ids++ [_]).Nodup;rw[AeY];refine⟨I.nodup,by simp,fun a ha b hb e=> ?_⟩;rw[AcY.1 hb]at e;exact h2 (e▸ha)
            · show _=s0.places++ [_];rw[Aei,I.pos]
              congr 1
              unfold entB;split <;> rfl
            · show(s0.places++ [_]).Pairwise _;rw[Aee];exact⟨I.asc,by simp,fun a ha b hb=>by rw[AcY.1 hb];exact I.top a ha⟩
            · intro p hp;rw[hbn,AcQ];rcases Adf.1 (show p∈s0.places++ [_]from hp)with hp | hp
              · have:=I.top p hp;omega
              · rw[AcY.1 hp];omega
            · intro X fin hf;rw[hbn,AcQ]at hf ⊢;rw[Adn,HN (I.ent (En ps i s0++X) fin (by omega)),RI hL (by omega) I.ok hbase X fin hf];rfl
            · intro j hj hjb;by_cases e:j=i
              · subst e;rw[GV _ _ _ I.len];have he:entB ps j s0=⟨s0.b.length,false,AcX 32 0,(ps.getD j AC).bytes⟩:=if_pos hjb;rw[he];refine⟨rfl,rfl,?_⟩;show(s0.depths++ [_]).getD j 0=0;rw[GV _ _ _ hd];exact if_pos hjb
              · rw[Fh _ _ _ (by rw[I.len];omega)];have:=I.flat j (by omega) hjb;refine⟨this.1,this.2.1,?_⟩;show(s0.depths++ [_]).getD j 0=0;rw[Fh _ _ _ (by omega)];exact this.2.2
            · intro j hj hjb;have f:∀k,k<i→(bnext ps (ps.getD i AC) s0).ids.getD k []=s0.ids.getD k []:=fun k hk=>Fh _ _ _ (by omega);have c:∀k,k<i→(bnext ps (ps.getD i AC) s0).depths.getD k 0=s0.depths.getD k 0:=fun k hk=>Fh _ _ _ (by omega);by_cases e:j=i
              · subst e;rw[GV _ _ _ I.len];have he:entB ps j s0=⟨s0.b.length,true,s0.ids.getD (ps.getD j AC).base.toNat [],B2 (ps.getD (ps.getD j AC).base.toNat AC).bytes (ps.getD j AC).bytes⟩:=if_neg hjb;rw[he];have hlt:(ps.getD j AC).base.toNat<j:=by omega
                refine⟨hlt,rfl,(f _ hlt).symm,rfl,?_⟩;rw[c _ hlt];show(s0.depths++ [_]).getD j 0=_;rw[GV _ _ _ hd];exact if_neg hjb
              · rw[Fh _ _ _ (by rw[I.len];omega)];have:=I.upon j (by omega) hjb;have hlt:=this.1;refine⟨hlt,this.2.1,?_,this.2.2.2.1,?_⟩
                · rw[f _ (by omega)];exact this.2.2.1
                · rw[c _ (by omega),c _ (by omega)];exact this.2.2.2.2
theorem FR{α β:Type}[BEq α][LawfulBEq α]:∀(l:List α) (m:List β) (j:Nat) (x:α) (y:β),l.Nodup→l[j]? =some x→m[j]? =some y→(l.zip m).lookup x=some y
  | [],_,_,_,_,_,h,_=>by simp at h
  | _ :: _,[],_,_,_,_,_,h=>by simp at h
  | a :: l,b :: m,0,x,y,_,h1,h2=>by
    simp only[Afe,Aey]at h1 h2;rw[h1,h2,AeU,Ael];simp
  | a :: l,b :: m,j+1,x,y,hn,h1,h2=>by
    simp only[Aem]at h1 h2;have hn' :=AeQ.1 hn;have:(x==a)=false:=by
      simp only[beq_eq_false_iff_ne];intro e;exact hn'.1 (e▸AdX h1)
    rw[AeU,Ael,this];exact FR l m j x y hn'.2 h1 h2
theorem Ht{α β γ:Type}[BEq α](f:β→γ)(x:α):∀(l:List α) (m:List β),(l.zip (m.map f)).lookup x=((l.zip m).lookup x).map f
  | [],_=>by simp
  | _ :: _,[]=>by simp
  | a :: l,b :: m=>by
    rw[Ado,AeU,AeU,Ael,Ael,Ht f x l m];split <;> rfl
def H8(s:BS)(es:List Ent)(id:Bs):Option Ent:=(s.ids.zip es).lookup id
theorem Eo{α:Type}{l:List α}{i:Nat}(d:α)(h:i<l.length):l[i]? =some (l.getD i d):=by
  rw[AcO,AcS h];rfl
section
variable {ps : List Pt} {n : Nat} {s : BS} {es : List Ent}
theorem BInv.at_(I:BInv ps n s es){j:Nat}(hj:j<n):H8 s es (s.ids.getD j [])=some (es.getD j dEnt.1):=
  FR _ _ j _ _ I.nodup (Eo [] (by rw[I.ok.ids];exact hj)) (Eo _ (by rw[I.len];exact hj))
theorem BInv.place(I:BInv ps n s es)(id:Bs):Bw s id=(H8 s es id).map Ent.pos:=by
  unfold Bw H8;rw[←I.pos,Ht]
theorem BInv.ix(I:BInv ps n s es){id:Bs}(h:id∈s.ids):∃j,j<n∧s.ids.getD j []=id:=by
  obtain⟨j,hj,e⟩:=Aeh h;refine⟨j,by rw[I.ok.ids]at hj;exact hj,?_⟩;rw[AcO,AcS hj];exact e
theorem BInv.miss(I:BInv ps n s es){id:Bs}(h:id∉s.ids):H8 s es id=none:=CW _ _ _ h
theorem BInv.posj(I:BInv ps n s es){j:Nat}(hj:j<n):s.places.getD j 0=(es.getD j dEnt.1).pos:=by
  rw[←I.pos,AcO,Aej,Eo dEnt.1 (by rw[I.len];exact hj)];rfl
theorem BInv.lt(I:BInv ps n s es){i j:Nat}(hi:i<j)(hj:j<n):(es.getD i dEnt.1).pos<(es.getD j dEnt.1).pos:=by
  rw[←I.posj (by omega),←I.posj hj];have h1:i<s.places.length:=by rw[I.ok.places];omega
  have h2:j<s.places.length:=by rw[I.ok.places];omega
  have:=Aen.1 I.asc i j h1 h2 hi;rw[AcO,AcS h1,AcO,AcS h2];exact this
theorem BInv.inj(I:BInv ps n s es){i j:Nat}(hi:i<n)(hj:j<n)(h:(es.getD i dEnt.1).pos=(es.getD j dEnt.1).pos):i=j:=by
  rcases Nat.lt_trichotomy i j with h1 | h1 | h1
  · have:=I.lt h1 hj;omega
  · exact h1
  · have:=I.lt h1 hi;omega
theorem BInv.placeGo(I:BInv ps n s es):∀(i j:Nat),j<i→i≤n→DY Ent.pos dEnt.1 es i (es.getD j dEnt.1).pos=some (es.getD j dEnt.1)
  | 0,_,h,_=>by omega
  | i+1,j,h,hi=>by
    show updM (Go.Proofs.YtfpekahfdalfkaaGreatDoor.DY Ent.pos dEnt.1 es i) _ _ _=_;unfold updM;by_cases e:j=i
    · subst e;rw[if_pos rfl]
    · rw[if_neg (fun q=>e (I.inj (by omega) (by omega) q))];exact I.placeGo i j (by omega) (by omega)
end
def Ko(s:BS)(id:Bs):Bs:=id++A8 ((Bw s id).getD 0)
def C6(s:BS):Bs:=(AO s.ids).flatMap (Ko s)
theorem I2{α:Type}(g:α→Bs)(k:Nat):∀(l:List α) (i:Nat),(∀x∈l,(g x).length=k)→(l.flatMap g).drop (k*i)=(l.drop i).flatMap g
  | [],i,_=>by simp
  | a :: l,0,_=>by simp
  | a :: l,i+1,h=>by
    rw[AdJ,AfI,show k*(i+1)=(g a).length+k*i by rw[h a (by simp),Nat.mul_succ,AgB],H7];exact I2 g k l i fun x hx=>h x (by simp[hx])
theorem MF{α:Type}{l:List α}{i:Nat}(d:α)(h:i<l.length):l.drop i=l.getD i d :: l.drop (i+1):=by
  rw[Ad3 h,AcO,AcS h];rfl
section
variable {ps : List Pt} {n : Nat} {s : BS} {es : List Ent}
theorem BInv.sortlen(I:BInv ps n s es):(AO s.ids).length=n:=by rw[GH,I.ok.ids]
theorem BInv.sortnd(I:BInv ps n s es):(AO s.ids).Nodup:=(sortB_perm s.ids).nodup_iff.2 I.nodup
theorem Fu{l:List Bs}{x:Bs}:x∈AO l↔x∈l:=(sortB_perm l).mem_iff
theorem BInv.row(I:BInv ps n s es){i:Nat}(hi:i<n):(C6 s).drop (36*i)=Ko s ((AO s.ids).getD i [])++((AO s.ids).drop (i+1)).flatMap (Ko s):=by
  unfold C6;rw[I2 (Ko s) 36 _ i (fun x hx=>by unfold Ko;rw[AcQ,GI,I.ok.len x (Fu.1 hx)]),MF [] (by rw[I.sortlen];exact hi),AdJ]
theorem BInv.sorted_mem(I:BInv ps n s es){i:Nat}(hi:i<n):(AO s.ids).getD i []∈s.ids:=Fu.1 (getD_mem [] (by rw[I.sortlen];exact hi))
theorem BInv.rowId(I:BInv ps n s es){i:Nat}(hi:i<n):BU (C6 s) i=(AO s.ids).getD i []:=by
  unfold Go.Proofs.YtfpekahfdalfkaaGreatDoor.BU;have h32:=I.ok.len _ (I.sorted_mem hi);rw[I.row hi];unfold Ko;rw[Adn,←h32,Ae8]
theorem BInv.rowAt(hL:Ct ps)(hn:n≤ps.length)(I:BInv ps n s es){i:Nat}(hi:i<n):ER (C6 s) i=(Bw s ((AO s.ids).getD i [])).getD 0:=by
  unfold Go.Proofs.YtfpekahfdalfkaaGreatDoor.ER;have hm:=I.sorted_mem hi;have h32:=I.ok.len _ hm;rw[I.row hi];unfold Ko;rw[Adn,←h32,AeM];refine HF _ ?_ _;obtain⟨j,hj,e⟩:=I.ix hm;rw[←e,I.place,I.at_ hj,Aeb,AdI,←I.posj hj];have h1:=I.ok.pl _ (getD_mem 0 (l:=s.places) (i:=j) (by rw[I.ok.places];exact hj));have:=hL.1;omega
theorem BInv.fresh(I:BInv ps n s es){i:Nat}(hi:i<n):(AO s.ids).getD i []∉(AO s.ids).take i:=by
  intro h;obtain⟨j,hj,e⟩:=Aeh h;rw[Ac8,I.sortlen]at hj;have hlen:=I.sortlen;have:=Aen.1 I.sortnd j i (by omega) (by omega) (by omega)
  apply this
  rw[AgO]at e;rw[e,AcO,AcS (by omega)];rfl
theorem BInv.index(hL:Ct ps)(hn:n≤ps.length)(I:BInv ps n s es):∀i,i≤n→∃S,DI Ent.pos dEnt.1 (C6 s) es i=some S∧S.ids=(AO s.ids).take i∧(∀id∈s.ids,id∉(AO s.ids).take i→S.G ((Bw s id).getD 0)=H8 s es id)∧∀id,S.M id=if id∈(AO s.ids).take i then H8 s es id else none
  | 0,_=>by
    refine⟨_,rfl,rfl,fun id hid _=> ?_,fun id=>by simp⟩;obtain⟨j,hj,rfl⟩:=I.ix hid;rw[I.place,I.at_ hj,Aeb,AdI,I.len];exact I.placeGo n j hj (AcP _)
  | i+1,hi=>by
    obtain⟨S,h1,h2,h3,h4⟩:=I.index hL hn i (by omega);have hlen:=I.sortlen;have hx:=I.sorted_mem (show i<n by omega);have hf:=I.fresh (show i<n by omega);obtain⟨j,hj,e⟩:=I.ix hx;have hc:H8 s es ((AO s.ids).getD i [])=some (es.getD j dEnt.1):=by rw[←e];exact I.at_ hj
    have ht:(AO s.ids).take (i+1)=(AO s.ids).take i++ [(AO s.ids).getD i []]:=by
      rw[Adi (by omega),AcO,AcS (show i<(AO s.ids).length by omega)];rfl
    have hG:S.G (Go.Proofs.YtfpekahfdalfkaaGreatDoor.ER (C6 s) i)=some (es.getD j dEnt.1):=by
      rw[I.rowAt hL hn (by omega),h3 _ hx hf,hc]
    have ho:i=0∨Adj (S.ids.getD (i-1) []) (Go.Proofs.YtfpekahfdalfkaaGreatDoor.BU (C6 s) i)<0:=by
      rcases Nat.eq_zero_or_pos i with h0 | h0
      · exact .inl h0
      · refine .inr ?_;rw[I.rowId (by omega),h2];have g1:((AO s.ids).take i).getD (i-1) []=(AO s.ids)[i-1]'(by omega):=by
          rw[AcO,AeS,if_pos (by omega),AcS (by omega)];rfl
        have g2:(AO s.ids).getD i []=(AO s.ids)[i]'(by omega):=by
          rw[AcO,AcS (by omega)];rfl
        rw[g1,g2];have a1:=Aen.1 (GG s.ids) (i-1) i (by omega) (by omega) (by omega);have a2:=Aen.1 I.sortnd (i-1) i (by omega) (by omega) (by omega);have a3:Adj ((AO s.ids)[i-1]'(by omega)) ((AO s.ids)[i]'(by omega))≠0:=fun q=>a2 (HE q);omega
    refine⟨DT Ent.pos (C6 s) i S (es.getD j dEnt.1),?_,?_,?_,?_⟩
    · rw[FH h1];unfold Ds;rw[hG];exact if_pos ho
    · show S.ids++ [_]=_;rw[h2,I.rowId (by omega),ht]
    · intro id hid hni;rw[ht]at hni;simp only[Adf,AcY,not_or]at hni;obtain⟨k,hk,rfl⟩:=I.ix hid;have hne:(Bw s (s.ids.getD k [])).getD 0≠(es.getD j dEnt.1).pos:=by
        rw[I.place,I.at_ hk,Aeb,AdI];intro q;have:=I.inj hk hj q;subst this;exact hni.2 e
      show updM S.G _ none _=_;unfold updM;rw[if_neg hne];exact h3 _ hid hni.1
    · intro id;show updM S.M _ _ _=_;unfold updM;rw[I.rowId (by omega),ht,h4];by_cases q:id=(AO s.ids).getD i []
      · rw[if_pos q,if_pos (by rw[q];simp),q,hc]
      · rw[if_neg q];by_cases q2:id∈(AO s.ids).take i
        · rw[if_pos q2,if_pos (by simp[q2])]
        · rw[if_neg q2,if_neg (by simp only[Adf,AcY,not_or];exact⟨q2,q⟩)]
def Kp(s:BS)(es:List Ent)(k:Bs):Ent:=(H8 s es k).getD dEnt.1
theorem BInv.E(I:BInv ps n s es){j:Nat}(hj:j<n):Kp s es (s.ids.getD j [])=es.getD j dEnt.1:=by unfold Kp;rw[I.at_ hj];rfl
theorem BInv.depth(I:BInv ps n s es):∀(m j:Nat),j<n→s.depths.getD j 0≤m→Ba (Kp s es) m (es.getD j dEnt.1)=some (s.depths.getD j 0)
  | m,j,hj,hm=>by
    by_cases hb:(ps.getD j AC).base<0
    · have:=I.flat j hj hb;rw[Eg this.1,this.2.2]
    · obtain⟨h1,h2,h3,h4,h5⟩:=I.upon j hj hb;cases m with
      | zero=>omega
      | succ m=>
        rw[DJ h2,h3,I.E (by omega),I.depth m _ (by omega) (by omega),h5];rfl
theorem BInv.chain(hL:Ct ps)(hn:n≤ps.length)(I:BInv ps n s es):∀(m j:Nat),j<n→s.depths.getD j 0=m→BP (Kp s es) (m+1) (s.ids.getD j [])=some ((ps.getD j AC).bytes,m)
  | m,j,hj,hm=>by
    have hp:=hL.2 _ (getD_mem AC (l:=ps) (i:=j) (by omega));by_cases hb:(ps.getD j AC).base<0
    · obtain⟨h1,h2,h3⟩:=I.flat j hj hb;rw[Gt (by rw[I.E hj];exact h1),I.E hj,h2,if_pos (by omega)];rw[h3]at hm;rw[hm]
    · obtain⟨h1,h2,h3,h4,h5⟩:=I.upon j hj hb;have hq:=hL.2 _ (getD_mem AC (l:=ps) (i:=(ps.getD j AC).base.toNat) (by omega));cases m with
      | zero=>omega
      | succ m=>
        rw[FN (by rw[I.E hj];exact h2),I.E hj,h3,I.chain hL hn m _ (by omega) (by omega),h4];show(if _ then(if _ then some (_,m+1)else none)else none)=_
        dsimp only
        rw[QL _ _ (by omega) (by omega),if_pos rfl,if_pos (by dsimp only;omega)]
def Ov(ps:List Pt)(s:BS)(id:Bs):Option (Bs × Nat):=(s.ids.zip ((ps.map Pt.bytes).zip s.depths)).lookup id
theorem BInv.obj(hL:Ct ps)(hn:n=ps.length)(I:BInv ps n s es){j:Nat}(hj:j<n):Ov ps s (s.ids.getD j [])=some ((ps.getD j AC).bytes,s.depths.getD j 0):=
  FR _ _ j _ _ I.nodup (Eo [] (by rw[I.ok.ids];exact hj)) (by
    rw[Agu]
    dsimp only
    exact⟨by rw[Aej,Eo AC (by omega)];rfl,Eo 0 (by rw[I.ok.depths];exact hj)⟩)
theorem BInv.sum(hn:n≤ps.length)(I:BInv ps n s es){j:Nat}(hj:j<n):Sha.sum (ps.getD j AC).bytes=s.ids.getD j []:=by
  have:s.ids[j]? =some (Sha.sum (ps.getD j AC).bytes):=by
    rw[I.ids,Aej,AeS,if_pos hj,Eo AC (by omega)];rfl
  rw[show s.ids.getD j []=(s.ids[j]?).getD []from AcO,this];rfl
theorem BInv.objs(hL:Ct ps)(hn:n=ps.length)(I:BInv ps n s es):∀i,i≤n→∃o,DE (Kp s es) (AO s.ids) i = .ok o∧o.total≤200*i∧∀id,o.O id=if id∈(AO s.ids).take i then Ov ps s id else none
  | 0,_=>⟨_,rfl,AcP _,fun id=>by simp⟩
  | i+1,hi=>by
    obtain⟨o,h1,h2,h3⟩:=I.objs hL hn i (by omega);have hlen:=I.sortlen;have hx:=I.sorted_mem (show i<n by omega);obtain⟨j,hj,e⟩:=I.ix hx;have hp:=hL.2 _ (getD_mem AC (l:=ps) (i:=j) (by omega));have h60:=hL.1;have hd:=I.ok.dp _ (getD_mem 0 (l:=s.depths) (i:=j) (by rw[I.ok.depths];exact hj));have ht:(AO s.ids).take (i+1)=(AO s.ids).take i++ [(AO s.ids).getD i []]:=by
      rw[Adi (by omega),AcO,AcS (show i<(AO s.ids).length by omega)];rfl
    have g:Dj (Kp s es) ((AO s.ids).getD i []) o = .ok ⟨o.total+(ps.getD j AC).bytes.length,updM o.O ((AO s.ids).getD i []) (some ((ps.getD j AC).bytes,s.depths.getD j 0))⟩:=by
      rw[←e,Fc (by rw[I.E hj];exact I.depth 50 j hj hd) (I.chain hL (by omega) _ j hj rfl),if_pos (I.sum (by omega) hj),if_pos (by omega)]
    refine⟨_,by rw[Fd h1];exact g,by dsimp only;omega,fun id=> ?_⟩
    dsimp only
    unfold updM;rw[ht,h3];by_cases q:id=(AO s.ids).getD i []
    · rw[if_pos q,if_pos (by rw[q];simp),q,←e,I.obj hL hn hj]
    · rw[if_neg q];by_cases q2:id∈(AO s.ids).take i
      · rw[if_pos q2,if_pos (by simp[q2])]
      · rw[if_neg q2,if_neg (by simp only[Adf,AcY,not_or];exact⟨q2,q⟩)]
theorem countP_perm{l m:List Bs}(h:l.Perm m)(p:Bs→Bool):l.countP p=m.countP p:=h.countP_eq p
theorem fanL_sort(l:List Bs):Be (AO l)=Be l:=by
  unfold Be
  congr 1
  funext c
  exact countP_perm (sortB_perm l) _
theorem flat4_drop(l:List Nat)(X:Bs)(i:Nat)(hi:i<l.length)(hv:∀x∈l,x<2^32):Eb ((l.flatMap A8++X).drop (4*i))=l.getD i 0:=by
  have hl:=KS l;rw[AgW,I2 A8 4 l i (fun _ _=>rfl),MF 0 hi,AdJ,Adn];exact HF _ (hv _ (getD_mem 0 hi)) _
theorem Ln(hL:Ct ps)(h:C4 ps ps.length = .ok s):B4 (AZ ps).1 = .ok (AO s.ids,Ov ps s):=by
  obtain⟨es,I⟩:=LR hL ps.length s (AcP _) h;have h60:=hL.1;have hB:=I.ok.b;have hbl:=G5 I.ok s.b.length;have hsl:∀x,(Sha.sum x).length=32:=Sha.sum_length;have f:(AZ ps).1=s.b++Cu s s.b.length++Sha.sum (s.b++Cu s s.b.length):=by unfold AZ;rw[h]
  have hlen:(AZ ps).1.length=s.b.length+(1028+36*ps.length)+32:=by rw[f,AcQ,AcQ,hbl,hsl]
  have hbeh:Cu s s.b.length=(Be s.ids).flatMap A8++C6 s++A8 s.b.length:=rfl;have hfan:((Be s.ids).flatMap A8).length=1024:=by rw[KS,BW]
  have hrows:(C6 s).length=36*ps.length:=by
    have:=NK (fun id=>(Bw s id).getD 0) (AO s.ids) (fun x hx=>I.ok.len x (Fu.1 hx));rw[I.sortlen]at this;exact this
  have huv:=Wr (n:=ps.length) (by omega)
  generalize hC:(AZ ps).1=c at f hlen ⊢
  unfold B4;rw[if_neg (by omega),if_neg (by omega),if_pos (by
    rw[f,AcQ,hsl,Nat.add_sub_cancel,Ae8,AeM])]
  -- the head
  obtain⟨r,hr⟩:∃r,s.b=80 :: Ac4 ps.length++r:=by
    have:∀i t,C4 ps i = .ok t→∃r,t.b=80 :: Ac4 ps.length++r:=by
      intro i
      induction i with
      | zero=>intro t ht;cases ht;exact⟨[],by simp⟩
      | succ i ih=>
        intro t ht;cases hb:C4 ps i with
        | error e=>rw[Fo hb 1]at ht;cases ht
        | ok t0=>
          obtain⟨r,hr⟩:=ih t0 hb;rw[EW hb]at ht;unfold EQ at ht;split at ht
          · cases ht
          · split at ht
            · cases ht
            · split at ht
              · cases ht
              · cases ht;exact⟨r++En ps i t0,by rw[P2,hr,Adn]⟩
    exact this _ _ h
  have hd1:c.drop 1=Ac4 ps.length++(r++Cu s s.b.length++Sha.sum (s.b++Cu s s.b.length)):=by
    rw[f,hr];simp only[AdP,Adn,AfI,Afg]
  have h80:c.getD 0 0=80:=by rw[f,hr];rfl
  have hat:Eb (c.drop (c.length-36))=s.b.length:=by
    have g:c=(s.b++(Be s.ids).flatMap A8++C6 s)++(A8 s.b.length++Sha.sum (s.b++Cu s s.b.length)):=by rw[f,hbeh];simp only[Adn]
    have l:c.length-36=(s.b++(Be s.ids).flatMap A8++C6 s).length:=by rw[hlen];simp only[AcQ,hfan,hrows];omega
    rw[l,g,AeM];exact HF _ (by omega) _
  have hfirst:1+(Ac4 ps.length).length≤s.b.length:=by rw[hr];simp only[AdP,Adh,AcQ];omega
  have hent:CA c ps.length (1+(Ac4 ps.length).length) s.b.length=some es:=by
    unfold CA;rw[f,Adn,I.ent _ _ (AcP _)];show(if s.b.length=s.b.length then some es else none)=_;rw[if_pos rfl]
  obtain⟨S,g1,g2,g3,g4⟩:=I.index hL (AcP _) ps.length (AcP _);have htake:(AO s.ids).take ps.length=AO s.ids:=AdD (by rw[I.sortlen];exact AcP _);rw[htake]at g2 g4;have hM:S.M=H8 s es:=by
    funext id
    rw[g4];split
    · rfl
    · rename_i q
      exact(I.miss (fun q2=>q (Fu.2 q2))).symm
  have hE:K5 S.M=Kp s es:=by rw[hM];rfl
  obtain⟨o,o1,o2,o3⟩:=I.objs hL rfl ps.length (AcP _);have hO:o.O=Ov ps s:=by
    funext id
    rw[o3,htake];split
    · rfl
    · rename_i q
      exact(CW _ _ _ (fun q2=>q (Fu.2 q2))).symm
  have ht:(c.drop (s.b.length+1024)).take (c.length-36-(s.b.length+1024))=C6 s:=by
    have g:c=(s.b++(Be s.ids).flatMap A8)++(C6 s++(A8 s.b.length++Sha.sum (s.b++Cu s s.b.length))):=by rw[f,hbeh];simp only[Adn]
    have l:s.b.length+1024=(s.b++(Be s.ids).flatMap A8).length:=by rw[AcQ,hfan]
    rw[g,l,AeM,show ∀a:Nat,a-(s.b++(Be s.ids).flatMap A8).length=a-(s.b.length+1024)from fun a=>by rw[l],←g,hlen,show s.b.length+(1028+36*ps.length)+32-36-(s.b.length+1024)=(C6 s).length by rw[hrows];omega,Ae8]
  unfold CB;rw[hd1,Ed _ (by omega)]
  dsimp only
  rw[hat];unfold Jp;rw[if_pos ⟨h80,hfirst,by omega,by omega⟩,if_pos (by omega)];unfold HW;rw[hent];show GO c s.b.length es=_;unfold GO;rw[ht,I.len,g1];show Hl c s.b.length es S=_;unfold Hl;rw[if_pos (fanB_of fun i hi=>by
    rw[g2,fanL_sort,f,hbeh];have g:s.b++((Be s.ids).flatMap A8++C6 s++A8 s.b.length)++Sha.sum (s.b++((Be s.ids).flatMap A8++C6 s++A8 s.b.length))=s.b++((Be s.ids).flatMap A8++(C6 s++(A8 s.b.length++Sha.sum (s.b++((Be s.ids).flatMap A8++C6 s++A8 s.b.length))))):=by simp only[Adn]
    rw[g,H7];refine flat4_drop _ _ i (by rw[BW];exact hi) fun x hx=> ?_;obtain⟨k,hk,rfl⟩:=Aeh hx;have:=Jm s.ids k;rw[AcO,AcS hk,I.ok.ids]at this;have:(Be s.ids)[k]≤ps.length:=this;omega),if_pos (by
    refine Adv.2 fun e he=> ?_;obtain⟨j,hj,rfl⟩:=Aeh he;rw[I.len]at hj;have ej:es[j]=es.getD j dEnt.1:=by rw[AcO,AcS];rfl
    rw[ej,hM];by_cases hb:(ps.getD j AC).base<0
    · rw[(I.flat j hj hb).1];rfl
    · obtain⟨k1,k2,k3,-⟩:=I.upon j hj hb;rw[k2,k3,I.at_ (by omega)];rfl)]
  rw[hE,g2,NW (o:=o) (by rw[I.sortlen];exact o1),hO]
end
def EB(p:Pt):Bs × Int:=(p.bytes,p.base)
theorem LS{ps qs:List Pt}(h:qs.map EB=ps.map EB)(i:Nat):(qs.getD i AC).bytes=(ps.getD i AC).bytes∧(qs.getD i AC).base=(ps.getD i AC).base:=by
  have h1:(qs.map EB)[i]? =(ps.map EB)[i]? :=by rw[h]
  rw[Aej,Aej]at h1;rw[AcO,AcO];cases ha:qs[i]? <;> cases hb:ps[i]? <;> rw[ha,hb]at h1
  · exact⟨rfl,rfl⟩
  · cases h1
  · cases h1
  · injection h1 with h1
    exact⟨congrArg Adk h1,congrArg Prod.snd h1⟩
theorem Jx{ps qs:List Pt}(h:qs.map EB=ps.map EB):qs.length=ps.length:=by simpa using congrArg AgQ h
theorem MG{ps qs:List Pt}(h:qs.map EB=ps.map EB):∀i,C4 qs i=C4 ps i
  | 0=>by unfold C4;rw[Jx h]
  | i+1=>by
    have ih:=MG h i;have hi:=LS h i;cases hb:C4 ps i with
    | error e=>rw[Fo hb 1,Fo (ih.trans hb) 1]
    | ok s=>
      rw[EW hb,EW (ih.trans hb)];have hd:Dr (qs.getD i AC) s=Dr (ps.getD i AC) s:=by unfold Dr;rw[hi.2]
      have hn:bnext qs (qs.getD i AC) s=bnext ps (ps.getD i AC) s:=by
        unfold bnext;rw[hd,hi.1,hi.2,(LS h (ps.getD i AC).base.toNat).1]
      unfold EQ;rw[hi.1,hi.2,hd,hn]
theorem Ow{ps qs:List Pt}(h:qs.map EB=ps.map EB):AZ qs=AZ ps:=by
  unfold AZ;rw[Jx h,MG h]
theorem Po{ps qs:List Pt}(h:qs.map EB=ps.map EB)(hL:Ct ps):Ct qs:=by
  refine⟨by rw[Jx h];exact hL.1,fun p hp=> ?_⟩;obtain⟨i,hi,rfl⟩:=Aeh hp;have h1:=(LS h i).1;rw[AcO,AcS hi]at h1;have h2:=hL.2 _ (getD_mem AC (l:=ps) (i:=i) (by rw[←Jx h];exact hi));have h3:(qs[i]).bytes=(ps.getD i AC).bytes:=h1;rw[h3];exact h2
theorem LT(w:AcK)(hG:Laid w)(v:AcJ)(ps qs:List Pt)(hr:RG 2 partC w v qs)(hps:LC w qs)(hq:qs.map EB=ps.map EB)(hL:Ct ps):
    Calls AcM 91 #[v] w fun e w' =>∃v',e = .returned (.tuple #[v',NI (AZ ps).2])∧w'.ownsRow w.heap.size 5 1 v' (AZ ps).1.length (AcL (AZ ps).1)∧Ext w w' :=by
  have h:=SN w hG v qs hr hps (Po hq hL);rw[Ow hq]at h;exact h
def PartsIn(w:AcK)(va:AcJ)(qs:List Pt):Prop:=∀x∈qs,RB w x.v x.bytes∧(-9223372036854775808≤x.base∧x.base≤9223372036854775807)∧∀k,x.v.ownBlock=some k→k<w.heap.size∧va.ownBlock≠some k
theorem PartsIn.keep{w w' :AcK}{va:AcJ}{qs:List Pt}(h:PartsIn w va qs)(k:Ext w w'):PartsIn w' va qs:=fun x hx=>
  ⟨(h x hx).1.keep k,(h x hx).2.1,fun j hj=>⟨AdE ((h x hx).2.2 j hj).1 k.size,((h x hx).2.2 j hj).2⟩⟩
theorem PartsIn.nil(w:AcK)(va:AcJ):PartsIn w va []:=fun x hx=>by cases hx
theorem Abt{w:AcK}{va:AcJ}{qs:List Pt}(h:PartsIn w va qs){x:Pt}(h1:RB w x.v x.bytes)(h2: -9223372036854775808≤x.base∧x.base≤9223372036854775807)(h3:∀k,x.v.ownBlock=some k→k<w.heap.size∧va.ownBlock≠some k):PartsIn w va (qs++ [x]):=fun y hy=>by
  rcases Adf.1 hy with hy | hy
  · exact h y hy
  · rw[AcY.1 hy];exact⟨h1,h2,h3⟩
theorem PartsIn.grew{w w' :AcK}{va va' :AcJ}{qs:List Pt}(h:PartsIn w va qs)(g:Grew w w' va va'):PartsIn w' va' qs:=fun x hx=>
  ⟨HP (h x hx).1 (fun k hk=>((h x hx).2.2 k hk).2) g,(h x hx).2.1,fun j hj=>⟨AdE ((h x hx).2.2 j hj).1 g.by_.size,fun e=>(g.fresh j e).elim (fun q=>((h x hx).2.2 j hj).2 q) (fun q=>by have:=((h x hx).2.2 j hj).1;omega)⟩⟩
theorem PartsIn.ok{w:AcK}{va:AcJ}{qs:List Pt}(h:PartsIn w va qs):LC w qs:=fun x hx=>⟨(h x hx).1,(h x hx).2.1⟩
theorem XF{ps:List Pt}{i e:Nat}{s:BS}(h:EQ ps i s = .error e):e≠0:=by
  unfold EQ at h;split at h
  · cases h;decide
  · split at h
    · cases h;decide
    · split at h
      · cases h;decide
      · cases h
theorem Wy{ps:List Pt}:∀ {i e:Nat},C4 ps i = .error e→e≠0
  | 0,e,h=>by cases h
  | i+1,e,h=>by
    cases hb:C4 ps i with
    | error a=>rw[Fo hb 1]at h;cases h;exact Wy hb
    | ok s=>rw[EW hb]at h;exact XF h
theorem Ox{ps:List Pt}{e:Nat}(h:C4 ps ps.length = .error e):AZ ps=([],e):=by unfold AZ;rw[h]
theorem TK{ps:List Pt}{s:BS}(h:C4 ps ps.length = .ok s):(AZ ps).2=0:=by unfold AZ;rw[h]
structure AllIn (w : AcK) (R : List AcJ) (us : List AcJ) (bs : List Bs) : Prop where
  len:us.length=bs.length
  rb:∀i,i<bs.length→RB w (us.getD i undef) (bs.getD i [])
  lt:∀i,i<bs.length→∀k,(us.getD i undef).ownBlock=some k→k<w.heap.size
  off:∀i,i<bs.length→∀k,(us.getD i undef).ownBlock=some k→∀v∈R,v.ownBlock≠some k
theorem AllIn.keep{w w' :AcK}{R us:List AcJ}{bs:List Bs}(h:AllIn w R us bs)(k:Ext w w'):AllIn w' R us bs:=
  ⟨h.len,fun i hi=>(h.rb i hi).keep k,fun i hi j hj=>AdE (h.lt i hi j hj) k.size,h.off⟩
theorem AllIn.nil(w:AcK)(R:List AcJ):AllIn w R [] []:=⟨rfl,fun i hi=>absurd hi (Aet _),fun i hi=>absurd hi (Aet _),fun i hi=>absurd hi (Aet _)⟩
theorem getD_snocV{α:Type}{l:List α}{d x:α}{i:Nat}(hi:i<l.length+1):(l++ [x]).getD i d=if i<l.length then l.getD i d else x:=by
  by_cases h:i<l.length
  · rw[if_pos h];simp only[AcO,AdF h]
  · have:i=l.length:=by omega
    subst this;rw[if_neg h];simp
theorem Aa8{w:AcK}{R us:List AcJ}{bs:List Bs}(h:AllIn w R us bs){v:AcJ}{x:Bs}(hr:RB w v x)(hl:∀k,v.ownBlock=some k→k<w.heap.size∧∀u∈R,u.ownBlock≠some k):AllIn w R (us++ [v]) (bs++ [x]):=by
  have e:=h.len;have key:∀i,i<(bs++ [x]).length→((us++ [v]).getD i undef=us.getD i undef∧(bs++ [x]).getD i []=bs.getD i []∧i<bs.length)∨((us++ [v]).getD i undef=v∧(bs++ [x]).getD i []=x):=fun i hi=>by
    rw[AcQ,Ac9]at hi;rw[getD_snocV (by rw[e];exact hi),getD_snocV hi,e];by_cases q:i<bs.length
    · rw[if_pos q,if_pos q];exact .inl ⟨rfl,rfl,q⟩
    · rw[if_neg q,if_neg q];exact .inr ⟨rfl,rfl⟩
  refine⟨by simp[e],fun i hi=> ?_,fun i hi=> ?_,fun i hi=> ?_⟩
  · rcases key i hi with ⟨h1,h2,h3⟩ | ⟨h1,h2⟩
    · rw[h1,h2];exact h.rb i h3
    · rw[h1,h2];exact hr
  · rcases key i hi with ⟨h1,h2,h3⟩ | ⟨h1,h2⟩
    · rw[h1];exact h.lt i h3
    · rw[h1];exact fun k hk=>(hl k hk).1
  · rcases key i hi with ⟨h1,h2,h3⟩ | ⟨h1,h2⟩
    · rw[h1];exact h.off i h3
    · rw[h1];exact fun k hk=>(hl k hk).2
theorem AllIn.grew{w w' :AcK}{R us:List AcJ}{bs:List Bs}{v v' :AcJ}(h:AllIn w (v :: R) us bs)(g:Grew w w' v v'):AllIn w' (v' :: R) us bs:=
  ⟨h.len,fun i hi=>HP (h.rb i hi) (fun k hk=>h.off i hi k hk v AdM) g,fun i hi k hk=>AdE (h.lt i hi k hk) g.by_.size,fun i hi k hk u hu=>by
    rcases Adz.1 hu with rfl | hu
    · exact fun e=>(g.fresh k e).elim (fun q=>h.off i hi k hk v AdM q) fun q=>by have:=h.lt i hi k hk;omega
    · exact h.off i hi k hk u (AdO _ hu)⟩
theorem AllIn.sub{w:AcK}{R S us:List AcJ}{bs:List Bs}(h:AllIn w R us bs)(hs:∀v∈S,v∈R∨v.ownBlock=none):AllIn w S us bs:=
  ⟨h.len,h.rb,h.lt,fun i hi k hk v hv=>(hs v hv).elim (fun q=>h.off i hi k hk v q) fun q e=>by rw[q]at e;cases e⟩
theorem AllIn.swap{w:AcK}{u v:AcJ}{us:List AcJ}{bs:List Bs}(h:AllIn w [u,v] us bs):AllIn w [v,u] us bs:=
  h.sub fun x hx=> .inl (by simp only[Adz,Aeu,or_false]at hx ⊢;exact hx.symm)
def By(D:Ae)(L:AN)(ids:List Bs):List Bs:=ids.map fun id=>(getV D L id).1
def szV(D:Ae)(L:AN)(ids:List Bs):List Int:=(By D L ids).map fun b=>((b.length:Nat):Int)
def BK(D:Ae)(L:AN)(ids:List Bs)(ch:List Int):EA:=planGo ch (szV D L ids) (szV D L ids).length
def AR(D:Ae)(L:AN)(ids:List Bs)(ch:List Int):List Pt:=((By D L ids).zip (BK D L ids ch).bases).map fun x=>⟨.slice none 0 0,x.1,x.2⟩
def D9(D:Ae)(L:AN)(ids:List Bs):Prop:=∃id∈ids,(getV D L id).2≠0
instance (D:Ae) (L:AN) (ids:List Bs):Decidable (D9 D L ids):=List.decidableBEx _ _
def AP(D:Ae)(L:AN)(ids:List Bs)(ch:List Int):List Bs × Nat:=
  if D9 D L ids then([],12)else if ids= []then([],0)else if(AZ (AR D L ids ch)).2=0 then([(AZ (AR D L ids ch)).1],0)else([],(AZ (AR D L ids ch)).2)
theorem Kq(ch:List Int){sz:List Int}(h:∀z∈sz,0≤z∧z≤200):∀i,i≤60→(planGo ch sz i).at_=0∧(planGo ch sz i).total≤200*i∧(planGo ch sz i).depths.length=i∧(∀p∈(planGo ch sz i).packs,p=0)∧∀b∈(planGo ch sz i).bases,-1≤b∧b≤60
  | 0,_=>⟨rfl,Adm _,rfl,(fun _ h=>by cases h),fun _ h=>by cases h⟩
  | i+1,hi=>by
    obtain⟨h1,h2,h3,h4,h5⟩:=Kq ch h i (by omega);have ht:turnPk (planGo ch sz i)=planGo ch sz i:=PZ (by omega) (by omega);have hz:Gy (sz.getD i 0)≤200:=by
      have:sz.getD i 0≤200:=by
        rw[AcO];cases e:sz[i]? with
        | none=>simp
        | some x=>exact(h x (AdX e)).2
      unfold Gy;omega
    rw[I1,ht];have hb:=Kk ch i (planGo ch sz i).depths.length;unfold Dw Jt;split
    · refine⟨h1,by show _+_≤_;omega,by simp[h3],fun p hp=> ?_,fun b a=> ?_⟩
      · rcases Adf.1 hp with hp | hp
        · exact h4 p hp
        · rw[AcY.1 hp,h1];rfl
      · rcases Adf.1 a with a | a
        · exact h5 b a
        · rw[AcY.1 a];omega
    · refine⟨h1,by show _+_≤_;omega,by simp[h3],fun p hp=> ?_,fun b a=> ?_⟩
      · rcases Adf.1 hp with hp | hp
        · exact h4 p hp
        · rw[AcY.1 hp,h1];rfl
      · rcases Adf.1 a with a | a
        · exact h5 b a
        · rw[AcY.1 a];omega
def goneV(D:Ae)(M:AN):List Bs:=(Av D [112,45]).filter (fun s=>(M.lookup s).isNone)++Av D [111,45]
def ES(D:Ae)(L M:AN):Ae × AN × List Bs × Nat:=
  if(BQ D (goneV D M)).2≠0 then((BQ D (goneV D M)).1,L,[],(BQ D (goneV D M)).2)else((BQ D (goneV D M)).1,M,[],0)
def EK(L:AN)(b:Bs)(p:AU)(x:Ae × Bool × Nat):Ae × AN × List Bs × Nat:=
  if x.2.2=8 then
    (if(BQ x.1 (if x.2.1=true then [Ax b]else [])).2≠0 then((BQ x.1 (if x.2.1=true then [Ax b]else [])).1,L,[],(BQ x.1 (if x.2.1=true then [Ax b]else [])).2)
    else((BQ x.1 (if x.2.1=true then [Ax b]else [])).1,L,[],8))
  else if x.2.2=7 then(x.1,L,[b,(Ap x.1 (Ax b)).1],7)
  else if x.2.2≠0 then(x.1,L,[],x.2.2)
  else ES x.1 L [(Ax b,p)]
def Lo(D:Ae)(L:AN)(b:Bs):Ae × AN × List Bs × Nat:=match B4 b with
  | .ok p=>EK L b p (AH D b)
  | .error _=>(D,L,[],0)
def BC(D:Ae)(L:AN)(o:List Bs)(ch:List Int):Ae × AN × List Bs × Nat:=
  if(AP D L o ch).2≠0 then(D,L,[],(AP D L o ch).2)else match (AP D L o ch).1 with
    | []=>ES D L []
    | b :: _=>Lo D L b
theorem RJ{D:Ae}{L:AN}{o:List Bs}{ch:List Int}(hL:Ct (AR D L o ch))(h0:(AP D L o ch).2=0):(AP D L o ch).1= []∨∃p,(AP D L o ch).1= [(AZ (AR D L o ch)).1]∧B4 (AZ (AR D L o ch)).1 = .ok p:=by
  unfold AP at h0 ⊢;split
  · exact .inl rfl
  · split
    · exact .inl rfl
    · split
      · rename_i q
        cases e:C4 (AR D L o ch) (AR D L o ch).length with
        | error x=>
          rw[Ox e]at q;exact absurd q (Wy e)
        | ok s=>exact .inr ⟨_,rfl,Ln hL e⟩
      · exact .inl rfl
theorem Vw{D:Ae}{L:AN}{o:List Bs}{ch:List Int}(h:(AP D L o ch).2≠0):BC D L o ch=(D,L,[],(AP D L o ch).2):=if_pos h
theorem I3{D:Ae}{L:AN}{o:List Bs}{ch:List Int}(h:¬(AP D L o ch).2≠0)(h1:(AP D L o ch).1= []):BC D L o ch=ES D L []:=by
  unfold BC;rw[if_neg h,h1]
theorem Kr{D:Ae}{L:AN}{o:List Bs}{ch:List Int}{b:Bs}{p:AU}(h:¬(AP D L o ch).2≠0)(h1:(AP D L o ch).1= [b])(h2:B4 b = .ok p):BC D L o ch=EK L b p (AH D b):=by
  unfold BC;rw[if_neg h,h1];show Lo D L b=_;unfold Lo;rw[h2]
theorem RK{α:Type}{l:List α}{i:Nat}(d:α)(h:i<l.length):l.take (i+1)=l.take i++ [l.getD i d]:=by
  rw[Adi h,AcO,AcS h];rfl
theorem Fv{α:Type}{l:List α}{i:Nat}(d:α)(h:i<l.length):l.getD i d=l[i]:=by
  rw[AcO,AcS h,AdI]
theorem I4(ch:List Int){sz:List Int}(h:∀z∈sz,0≤z∧z≤200){i:Nat}(hi:i<60):planGo ch sz (i+1)=Dw ch i (sz.getD i 0) (planGo ch sz i)∧(planGo ch sz i).depths.length=i:=by
  obtain⟨h1,h2,h3,-,-⟩:=Kq ch h i (by omega);rw[I1,PZ (by omega) (by omega)];exact⟨rfl,h3⟩
theorem Lp(ch:List Int)(i:Nat)(z:Int)(s:EA):∃b d:Int,(Dw ch i z s).bases=s.bases++ [b]∧(Dw ch i z s).depths=s.depths++ [d] ∧ -1≤b∧b<s.depths.length∧d≤50∧d=(if 0≤b then s.depths.getD b.toNat 0+1 else 0):=by
  have hb:=Kk ch i s.depths.length;unfold Dw Jt;split
  · exact⟨-1,0,rfl,rfl,by omega,by omega,by omega,(if_neg (by decide)).symm⟩
  · rename_i q
    exact⟨_,_,rfl,rfl,hb.1,hb.2,by omega,rfl⟩
theorem MH(ch:List Int){sz:List Int}(hz:∀z∈sz,0≤z∧z≤200){i:Nat}:∀ {n:Nat},n≤60→i<n→(planGo ch sz n).bases.getD i 0=(planGo ch sz (i+1)).bases.getD i 0
  | 0,_,h=>absurd h (Aet _)
  | n+1,hn,h=>by
    by_cases q:i=n
    · rw[q]
    · obtain⟨p1,-⟩:=I4 ch hz (i:=n) (by omega);obtain⟨b,d,q1,-⟩:=Lp ch n (sz.getD n 0) (planGo ch sz n);have hl:=(Ex ch sz n).lb;rw[←MH ch hz (n:=n) (by omega) (by omega),p1,q1,AcO,AdF (by omega),←AcO]
theorem Oy{ps:List Pt}{ch sz:List Int}{ids:List Bs}(hz:∀z∈sz,0≤z∧z≤200)(h60:ids.length≤60)(hb:∀i,i<ids.length→(ps.getD i AC).base=(planGo ch sz ids.length).bases.getD i 0)(hs:∀i,i<ids.length→Sha.sum (ps.getD i AC).bytes=ids.getD i [])(hn:ids.Nodup):
    ∀i,i≤ids.length→∃s,C4 ps i = .ok s∧s.depths.map (fun d=>((d:Nat):Int))=(planGo ch sz i).depths∧s.ids=ids.take i
  | 0,_=>⟨_,rfl,rfl,rfl⟩
  | i+1,hi=>by
    obtain⟨s,e,hd,hids⟩:=Oy hz h60 hb hs hn i (by omega);obtain⟨b,d,q1,q2,q3,q4,q5,q6⟩:=Lp ch i (sz.getD i 0) (planGo ch sz i);obtain⟨p1,p2⟩:=I4 ch hz (i:=i) (by omega);rw[p2]at q4;have hbase:(ps.getD i AC).base=b:=by
      have hl:=(Ex ch sz i).lb;rw[hb i (by omega),MH ch hz h60 (by omega),p1,q1,AcO,AdB (by omega),hl,Aez];rfl
    have hlen:s.depths.length=i:=by
      have:=congrArg AgQ hd;rw[Ada,p2]at this;exact this
    have hdep:((Dr (ps.getD i AC) s:Nat):Int)=d:=by
      unfold Dr;rw[hbase,q6];by_cases q:b<0
      · rw[if_pos q,if_neg (by omega)];rfl
      · rw[if_neg q,if_pos (by omega),←hd];have hlt:b.toNat<s.depths.length:=by omega
        have a:b.toNat<(s.depths.map fun d=>((d:Nat):Int)).length:=by rw[Ada];exact hlt
        rw[Fv _ hlt,Fv _ a,Agg];rfl
    have hni:Sha.sum (ps.getD i AC).bytes∉s.ids:=by
      rw[hs i (by omega),hids];intro hm;obtain⟨k,hk,he⟩:=Aeh hm;rw[Ac8]at hk;rw[AgO,Fv _ (show i<ids.length by omega)]at he;exact Aen.1 (Ahy.1 hn) k i (by omega) (by omega) (by omega) he
    refine⟨bnext ps (ps.getD i AC) s,?_,?_,?_⟩
    · rw[EW e];unfold EQ;rw[if_neg (by rw[hbase];omega),if_neg hni,if_neg (by omega)]
    · show(s.depths++ [Dr _ s]).map _=_;rw[Aei,hd,p1,q2,List.map_singleton,hdep]
    · show s.ids++ [Sha.sum _]=_;rw[hids,hs i (by omega),RK ([]:Bs) (show i<ids.length by omega)]
section
variable {D : Ae} {L : AN} {o : List Bs} {ch : List Int}
def H9(D:Ae)(L:AN)(o:List Bs):Prop:=∀id∈o,(getV D L id).2=0∧(getV D L id).1.length≤200∧Sha.sum (getV D L id).1=id
theorem Zq(h:H9 D L o):∀z∈szV D L o,0≤z∧z≤200:=fun z hz=>by
  unfold szV By at hz;rw[AfD]at hz;obtain⟨id,hid,rfl⟩:=Adx.1 hz;have:=(h id hid).2.1;show(0:Int)≤(((getV D L id).1.length:Nat):Int)∧(((getV D L id).1.length:Nat):Int)≤200;omega
theorem I5(h60:o.length≤60){i:Nat}(hi:i<o.length):((AR D L o ch).getD i AC).base=(planGo ch (szV D L o) o.length).bases.getD i 0∧((AR D L o ch).getD i AC).bytes=(getV D L (o.getD i [])).1:=by
  have hl:(szV D L o).length=o.length:=by unfold szV By;rw[Ada,Ada]
  have h2:i<(BK D L o ch).bases.length:=by unfold BK;rw[(Ex ch (szV D L o) _).lb,hl];exact hi
  have h1:i<(By D L o).length:=by unfold By;rw[Ada];exact hi
  have e:(AR D L o ch).getD i AC=⟨.slice none 0 0,(By D L o)[i],(BK D L o ch).bases[i]⟩:=by
    unfold AR;rw[AcO,Aej,(Agu (z:=((By D L o)[i],(BK D L o ch).bases[i]))).2 ⟨AcS h1,AcS h2⟩];rfl
  rw[e];refine⟨?_,?_⟩
  · show(BK D L o ch).bases[i]=_;rw[←Fv 0 h2];unfold BK;rw[hl]
  · have a:(By D L o)[i]=(getV D L o[i]).1:=Agg ..;show(By D L o)[i]=_;rw[a,Fv _ hi]
theorem partsK_len:(AR D L o ch).length=o.length:=by
  have hl:(szV D L o).length=o.length:=by unfold szV By;rw[Ada,Ada]
  have h2:(BK D L o ch).bases.length=o.length:=by unfold BK;rw[(Ex ch (szV D L o) _).lb,hl]
  unfold AR;rw[Ada,List.length_zip,h2];unfold By;rw[Ada,Nat.min_self]
theorem GA(h:H9 D L o)(h60:o.length≤60):Ct (AR D L o ch):=by
  refine⟨by rw[partsK_len];exact h60,fun p hp=> ?_⟩;unfold AR at hp;obtain⟨x,hx,rfl⟩:=Adx.1 hp;have h1:=(List.of_mem_zip hx).1;unfold By at h1;obtain⟨id,hid,h2⟩:=Adx.1 h1;show x.1.length≤200;rw[←h2];exact(h id hid).2.1
theorem Lq(h:H9 D L o):¬D9 D L o:=fun⟨id,hid,q⟩=>q (h id hid).1
theorem MJ{ps:List Pt}(hL:Ct ps){s:BS}(h:C4 ps ps.length = .ok s):(AZ ps).1.length≤40000:=by
  have hk:=IN hL ps.length s (AcP _) h;have h1:=hk.b;have h2:=G5 hk s.b.length;have h3:=hL.1;have e:(AZ ps).1=s.b++Cu s s.b.length++Sha.sum (s.b++Cu s s.b.length):=by unfold AZ;rw[h]
  rw[e,AcQ,AcQ,Sha.sum_length,h2];omega
theorem TL(h:H9 D L o)(h60:o.length≤60)(hn:o.Nodup)(hne:o≠ []):∃b p,AP D L o ch=([b],0)∧B4 b = .ok p∧b.length≤40000∧(∀id,id∈p.1↔id∈o)∧(∀id∈o,∃d,p.2 id=some ((getV D L id).1,d))∧∀id,id∉o→p.2 id=none:=by
  have hsz:=Zq h;obtain⟨s,e,-,hids⟩:=Oy (ps:=AR D L o ch) (ch:=ch) hsz h60 (fun i hi=>(I5 h60 hi).1) (fun i hi=>by rw[(I5 h60 hi).2];exact(h _ (getD_mem _ hi)).2.2) hn o.length (AcP _);rw[Ad6]at hids;have hL:=GA (ch:=ch) h h60;have a:C4 (AR D L o ch) (AR D L o ch).length = .ok s:=by rw[partsK_len];exact e
  have hop:=Ln hL a;obtain⟨es,I⟩:=LR hL (AR D L o ch).length s (AcP _) a;refine⟨(AZ (AR D L o ch)).1,(AO s.ids,Ov (AR D L o ch) s),?_,hop,MJ hL a,fun id=>by rw[←hids];exact Fu,fun id hid=> ?_,fun id hid=> ?_⟩
  · unfold AP;rw[if_neg (Lq h),if_neg hne,if_pos (TK a)]
  · obtain⟨j,hj,ej⟩:=Aeh hid;have hjp:j<(AR D L o ch).length:=by rw[partsK_len];exact hj
    have h1:=I.obj hL rfl hjp;have c:s.ids.getD j []=id:=by rw[hids,Fv _ hj,ej]
    rw[c,(I5 h60 hj).2,Fv _ hj,ej]at h1;exact⟨_,h1⟩
  · rw[←hids]at hid;exact CW _ _ _ hid
end
theorem AcH{wb w w' :AcK}{g:Nat}{H:Dk}{D:Ae}(h:DkG wb w g H D)(hc:Chg (BZ H D.files.length) w w'){α:Type}{b k:Nat}{t:AcR}{enc:α→List AcJ}{v:AcJ}{l:List α}(hr:OG b t k enc w v l)(h1:t≠107)(h2:t≠133)(h3:t≠5)(h4:t≠131):OG b t k enc w' v l:=by
  refine⟨hr.1,C9 hc hr.2 fun i hi q=> ?_⟩;have ht:=Ho hr.2 hi;rcases(h.st.foot q).1 with ⟨es,c,e⟩ | ⟨cs,t',fr,e,ht'⟩
  · unfold CT at ht;rw[e]at ht;cases ht
  · have:=B6 e;rw[this]at ht;have ht:t' =t:=by simpa using ht
    subst ht;rcases ht' with q | q | q | q
    · exact h1 q
    · exact h2 q
    · exact h3 q
    · exact h4 q
theorem LU{D:Ae}{s:List UInt8}{k:Nat}(hd:D.down=false)(hm:Br s=true)(h:Aw D.now s=some k):Ap D s=((A0 D k).1,0):=by
  have h0:CH D s s=0:=by
    unfold CH;rw[if_neg (by rw[hd];decide),if_pos ⟨hm,hm⟩]
  unfold Ap FO;rw[if_neg (by rw[h0];exact fun q=>q rfl),h]
structure VtK (wb w : AcK) (n g gv : Nat) (H : Dk) (D : Ae) (w' : AcK) (H' : Dk) (D' : Ae) (L' : AN) : Prop where
  dk:DkG wb w' g H' D'
  v:∃bm ptr,VtAt n (Cd H' D') w' gv g bm L' ptr
  chg:Chg (fun k=>BZ H D.files.length k∨k=gv∧n≤gv) w w'
  foot:∀i,BZ H' D'.files.length i→BZ H D.files.length i∨w.heap.size≤i
theorem Chg.monoV{B C:Nat→Prop}{w w' :AcK}(h:Chg B w w')(hB:∀k,B k→C k):Chg C w w' :=⟨h.os,h.tape,h.output,h.size,fun k hk hn=>h.blk k hk fun q=>hn (hB k q)⟩
theorem AaC{wb w w' :AcK}{n g gv bm:Nat}{H H' :Dk}{D D' :Ae}{L:AN}{ptr:Bs→Nat}(h:VtAt n (Cd H D) w gv g bm L ptr)(hW:DkW wb w g H D w' H' D'):VtK wb w n g gv H D w' H' D' L:=
  ⟨hW.g,⟨bm,ptr,h.step hW⟩,hW.chg.monoV fun k q=> .inl q,hW.foot⟩
end Go.Proofs.YtfpekahfdalfkaaGreatDoor
