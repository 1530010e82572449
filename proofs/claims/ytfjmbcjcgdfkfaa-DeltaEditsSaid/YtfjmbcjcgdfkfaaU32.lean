/- Words of 32 bits, as UInt32: the operations on them, steps of regions by facts on them, on numbers, on addresses. They hold of any program. -/
import Derived.Test.YtfjmbcjcgdfkfaaBase
import Derived.Test.YtfjmbcjcgdfkfaaRegion
import Derived.Test.YtfjmbcjcgdfkfaaSteps
namespace Go.Proofs.Ytfjmbcjcgdfkfaa
open Go.RowKit
variable {P : Program}

abbrev U (x : UInt32) : Value := .int .u32 (x.toNat : Int)
abbrev NI (n : Nat) : Value := .int .i64 (n : Int)
abbrev B8 (x : UInt8) : Value := .int .u8 (x.toNat : Int)

theorem u32_wrap (n : Nat) : IntKind.u32.wrap (n : Int) = ((n % 4294967296 : Nat) : Int) := by
  simp [IntKind.wrap, IntKind.bits, IntKind.signed]
theorem u8_wrap (n : Nat) : IntKind.u8.wrap (n : Int) = ((n % 256 : Nat) : Int) := by
  simp [IntKind.wrap, IntKind.bits, IntKind.signed]
theorem i64_wrap (n : Nat) (h : n < 9223372036854775808) : IntKind.i64.wrap (n : Int) = (n : Int) := by
  simp only [IntKind.wrap, IntKind.bits, IntKind.signed]
  have : (n : Int) % (2 ^ 64 : Int) = n := by omega
  simp only [this]
  rw [if_neg]
  simp
  omega
theorem u_ofInt (a : UInt32) : BitVec.ofInt 32 (a.toNat : Int) = a.toBitVec := by
  rw [BitVec.ofInt_natCast]
  exact BitVec.ofNat_toNat 32 a.toBitVec |>.trans (by simp)
theorem u_add (t : TypeId) (a b : UInt32) : Go.binOp .add t (U a) (U b) = pure (U (a + b)) := by
  unfold Go.binOp
  simp only [ne_eq, not_true_eq_false, if_false, Op.intArith]
  rw [← Int.natCast_add, u32_wrap]
  simp [U, UInt32.toNat_add]
theorem u_xor (t : TypeId) (a b : UInt32) : Go.binOp .xor t (U a) (U b) = pure (U (a ^^^ b)) := by
  unfold Go.binOp
  simp only [ne_eq, not_true_eq_false, if_false, Op.intBits, IntKind.bits, u_ofInt]
  rw [u32_wrap, Nat.mod_eq_of_lt (BitVec.isLt _)]
  rfl
theorem u_and (t : TypeId) (a b : UInt32) : Go.binOp .and t (U a) (U b) = pure (U (a &&& b)) := by
  unfold Go.binOp
  simp only [ne_eq, not_true_eq_false, if_false, Op.intBits, IntKind.bits, u_ofInt]
  rw [u32_wrap, Nat.mod_eq_of_lt (BitVec.isLt _)]
  rfl
theorem u_or (t : TypeId) (a b : UInt32) : Go.binOp .or t (U a) (U b) = pure (U (a ||| b)) := by
  unfold Go.binOp
  simp only [ne_eq, not_true_eq_false, if_false, Op.intBits, IntKind.bits, u_ofInt]
  rw [u32_wrap, Nat.mod_eq_of_lt (BitVec.isLt _)]
  rfl
theorem u_not (a : UInt32) : Go.Op.unary .xor (U a) = pure (U (~~~a)) := by
  unfold Go.Op.unary
  have h : BitVec.ofInt 32 (IntKind.u32.max) = BitVec.allOnes 32 := by decide
  simp only [IntKind.signed, Bool.false_eq_true, if_false, Op.intBits, IntKind.bits, u_ofInt, h]
  rw [u32_wrap, Nat.mod_eq_of_lt (BitVec.isLt _)]
  simp only [U]
  have h2 : BitVec.allOnes 32 ^^^ a.toBitVec = ~~~a.toBitVec := BitVec.allOnes_xor
  exact congrArg (fun z : BitVec 32 => (pure (Value.int .u32 (z.toNat : Int)) : Sem Value)) h2
theorem u_shl (t : TypeId) (a : UInt32) (k : IntKind) (n : Nat) (hn : n < 32) : Go.binOp .shl t (U a) (.int k (n : Int)) = pure (U (a <<< UInt32.ofNat n)) := by
  unfold Go.binOp
  simp only [Op.shift, IntKind.bits]
  rw [if_neg (by omega), Int.toNat_natCast, Nat.min_eq_left (by omega)]
  have : (a.toNat : Int) * 2 ^ n = ((a.toNat * 2 ^ n : Nat) : Int) := by simp
  rw [this, u32_wrap]
  simp only [U]
  congr 2
  simp [UInt32.toNat_shiftLeft, Nat.shiftLeft_eq, Nat.mod_eq_of_lt (show n < 4294967296 by omega), Nat.mod_eq_of_lt hn]
theorem u_shr (t : TypeId) (a : UInt32) (k : IntKind) (n : Nat) (hn : n < 32) : Go.binOp .shr t (U a) (.int k (n : Int)) = pure (U (a >>> UInt32.ofNat n)) := by
  unfold Go.binOp
  simp only [Op.shift, IntKind.bits]
  rw [if_neg (by omega), Int.toNat_natCast, Nat.min_eq_left (by omega)]
  have : (a.toNat : Int).fdiv (2 ^ n) = ((a.toNat / 2 ^ n : Nat) : Int) := by
    rw [show (2 ^ n : Int) = ((2 ^ n : Nat) : Int) by simp, Int.fdiv_eq_ediv_of_nonneg _ (Int.natCast_nonneg _)]
    rfl
  rw [this]
  simp only [U]
  congr 2
  simp [UInt32.toNat_shiftRight, Nat.shiftRight_eq_div_pow, Nat.mod_eq_of_lt (show n < 4294967296 by omega), Nat.mod_eq_of_lt hn]
theorem n_add (t : TypeId) (a b : Nat) (h : a + b < 9223372036854775808) : Go.binOp .add t (NI a) (NI b) = pure (NI (a + b)) := by
  unfold Go.binOp
  simp only [ne_eq, not_true_eq_false, if_false, Op.intArith]
  rw [← Int.natCast_add, i64_wrap _ h]
theorem n_mul (t : TypeId) (a b : Nat) (h : a * b < 9223372036854775808) : Go.binOp .mul t (NI a) (NI b) = pure (NI (a * b)) := by
  unfold Go.binOp
  simp only [ne_eq, not_true_eq_false, if_false, Op.intArith]
  rw [← Int.natCast_mul, i64_wrap _ h]
theorem n_sub (t : TypeId) (a b : Nat) (h : a < 9223372036854775808) (hb : b ≤ a) : Go.binOp .sub t (NI a) (NI b) = pure (NI (a - b)) := by
  unfold Go.binOp
  simp only [ne_eq, not_true_eq_false, if_false, Op.intArith]
  rw [← Int.natCast_sub hb, i64_wrap _ (by omega)]
/-- An operation on two numbers. -/
theorem run_bin {op : BinOp} {t ty2 : TypeId} {x y : Operand} {d : Option Tmp} {ty : TypeId} {pos : String} {af : Array Edge} {gd : Option (Nat × Bool)} {ρ : Operand → Value} {xv yv v : Value} {w : World}
    (hx : ρ x = xv) (hy : ρ y = yv) (hne : (op matches .eql | .neq) = false) (hr : Go.binOp op t xv yv = pure v) : (execOp ρ ⟨d, .binOp op t x y ty2, ty, pos, af, gd⟩).run P w = .ok (.value v) w := by
  have hg : eqGuard op t x y xv yv = pure () := by
    unfold eqGuard
    cases op <;> first | rfl | cases hne
  unfold execOp
  simp only [hx, hy, hg, hr, Sem.run_bind, Sem.run_pure, Result.andThen_ok]
theorem YieldsK.bin {K : Value → World → Prop} {op : BinOp} {t ty2 : TypeId} {x y : Operand} {d : Option Tmp} {ty : TypeId} {pos : String} {af : Array Edge} {gd : Option (Nat × Bool)} {ρ : Tmp → Value} {xv yv v : Value} {w : World}
    (hx : evalR ρ x = xv) (hy : evalR ρ y = yv) (hne : (op matches .eql | .neq) = false) (hr : Go.binOp op t xv yv = pure v) (hk : K v w) : YieldsK P K ((execOp (evalR ρ) ⟨d, .binOp op t x y ty2, ty, pos, af, gd⟩).run P w) :=
  YieldsK.value (run_bin hx hy hne hr) hk
theorem YieldsK.not32 {K : Value → World → Prop} {t : TypeId} {x : Operand} {d : Option Tmp} {ty : TypeId} {pos : String} {af : Array Edge} {gd : Option (Nat × Bool)} {ρ : Tmp → Value} {a : UInt32} {w : World}
    (hx : evalR ρ x = U a) (hk : K (U (~~~a)) w) : YieldsK P K ((execOp (evalR ρ) ⟨d, .unOp .xor t x, ty, pos, af, gd⟩).run P w) := by
  refine YieldsK.value (v := U (~~~a)) (w' := w) ?_ hk
  unfold execOp
  simp only [hx, u_not]
  simp
/-- A byte as a word. -/
theorem YieldsK.wide {K : Value → World → Prop} {src dst : TypeId} {x : Operand} {d : Option Tmp} {ty : TypeId} {pos : String} {af : Array Edge} {gd : Option (Nat × Bool)} {ρ : Tmp → Value} {a : UInt8} {w : World}
    (hs : P.underlying src = some (.int .u8)) (hd : P.underlying dst = some (.int .u32)) (hx : evalR ρ x = B8 a) (hk : K (U a.toUInt32) w) : YieldsK P K ((execOp (evalR ρ) ⟨d, .convert src dst x, ty, pos, af, gd⟩).run P w) := by
  refine YieldsK.value (v := U a.toUInt32) (w' := w) ?_ hk
  unfold execOp
  simp only [hx, convert, Sem.run_bind, run_underlying hs, run_underlying hd, Result.andThen_ok, Conv.intToInt, Sem.run_pure]
  rw [u32_wrap, Nat.mod_eq_of_lt (by have := a.toNat_lt; omega)]
  simp [U]
/-- A word's last byte. -/
theorem YieldsK.narrow {K : Value → World → Prop} {src dst : TypeId} {x : Operand} {d : Option Tmp} {ty : TypeId} {pos : String} {af : Array Edge} {gd : Option (Nat × Bool)} {ρ : Tmp → Value} {a : UInt32} {w : World}
    (hs : P.underlying src = some (.int .u32)) (hd : P.underlying dst = some (.int .u8)) (hx : evalR ρ x = U a) (hk : K (B8 a.toUInt8) w) : YieldsK P K ((execOp (evalR ρ) ⟨d, .convert src dst x, ty, pos, af, gd⟩).run P w) := by
  refine YieldsK.value (v := B8 a.toUInt8) (w' := w) ?_ hk
  unfold execOp
  simp only [hx, convert, Sem.run_bind, run_underlying hs, run_underlying hd, Result.andThen_ok, Conv.intToInt, Sem.run_pure]
  rw [u8_wrap]
  simp [B8]
/-- The address of an array's element. -/
theorem run_at_arr {t e : TypeId} {n : Nat} (ht : P.underlying t = some (.array n e)) (he : ∀ w' : World, (sizeOf e).run P w' = .ok 1 w') {x y : Operand} {d : Option Tmp} {ty : TypeId} {pos : String} {af : Array Edge} {gd : Option (Nat × Bool)} {ρ : Operand → Value} {w : World} {b o i : Nat} {k : IntKind}
    (hx : ρ x = .pointer (some ⟨b, o, none⟩)) (hy : ρ y = .int k (i : Int)) (hi : i < n) : (execOp ρ ⟨d, .indexAddr t x y, ty, pos, af, gd⟩).run P w = .ok (.value (.pointer (some ⟨b, o + i, none⟩))) w := by
  have hE : P.elem t = e := by simp [Program.elem, ht]
  have hN : P.arrayLen t = n := by simp [Program.arrayLen, ht]
  have hr := run_indexAt_array (P := P) w t ⟨b, o, none⟩ k (i : Int) (by rw [hE, hN]; exact ht)
  rw [if_pos (by rw [hN]; omega), hE, he] at hr
  unfold execOp
  simp only [hx, hy, Sem.run_bind, hr, Result.andThen_ok, Sem.run_pure]
  simp [Addr.add_lit]
theorem YieldsK.atArr {K : Value → World → Prop} {t e : TypeId} {n : Nat} (ht : P.underlying t = some (.array n e)) (he : ∀ w' : World, (sizeOf e).run P w' = .ok 1 w') {x y : Operand} {d : Option Tmp} {ty : TypeId} {pos : String} {af : Array Edge} {gd : Option (Nat × Bool)} {ρ : Tmp → Value} {w : World} {b o i : Nat} {k : IntKind}
    (hx : evalR ρ x = .pointer (some ⟨b, o, none⟩)) (hy : evalR ρ y = .int k (i : Int)) (hi : i < n) (hk : K (.pointer (some ⟨b, o + i, none⟩)) w) : YieldsK P K ((execOp (evalR ρ) ⟨d, .indexAddr t x y, ty, pos, af, gd⟩).run P w) :=
  YieldsK.value (run_at_arr ht he hx hy hi) hk
theorem YieldsK.atSl {K : Value → World → Prop} {t e : TypeId} (ht : P.underlying t = some (.slice e)) (he : ∀ w' : World, (sizeOf e).run P w' = .ok 1 w') {x y : Operand} {d : Option Tmp} {ty : TypeId} {pos : String} {af : Array Edge} {gd : Option (Nat × Bool)} {ρ : Tmp → Value} {w : World} {b o i n c : Nat} {k : IntKind}
    (hx : evalR ρ x = .slice (some ⟨b, o, none⟩) n c) (hy : evalR ρ y = .int k (i : Int)) (hi : i < n) (hk : K (.pointer (some ⟨b, o + i, none⟩)) w) : YieldsK P K ((execOp (evalR ρ) ⟨d, .indexAddr t x y, ty, pos, af, gd⟩).run P w) := by
  refine YieldsK.value (v := .pointer (some ⟨b, o + i, none⟩)) (w' := w) ?_ hk
  have hE : P.elem t = e := by simp [Program.elem, ht]
  have hr := run_indexAt_slice (P := P) w t ⟨b, o, none⟩ n c k (i : Int) (by rw [hE]; exact ht)
  rw [if_pos (by omega), hE, he] at hr
  unfold execOp
  simp only [hx, hy, Sem.run_bind, hr, Result.andThen_ok, Sem.run_pure]
  simp [Addr.add_lit]
/-- A cell is loaded. -/
theorem run_cell1 {ty : TypeId} {desc : TypeDesc} (hu : P.underlying ty = some desc) (hd : (match desc with | .struct _ | .array _ _ => false | _ => true) = true) {x : Operand} {d : Option Tmp} {tt : TypeId} {pos : String} {af : Array Edge} {gd : Option (Nat × Bool)} {ρ : Operand → Value} {w : World} {a : Addr} {v : Value}
    (hx : ρ x = .pointer (some a)) (hc : w.cell? a = some v) : (execOp ρ ⟨d, .load ty x, tt, pos, af, gd⟩).run P w = .ok (.value v) w := by
  have hl : (Instr.loadAt ty (.pointer (some a))).run P w = .ok v w := by
    have hagg : (isAgg ty).run P w = .ok false w := by
      unfold isAgg
      rw [Sem.run_bind, run_underlying hu w]
      cases desc <;> simp_all
    simp [Instr.loadAt, Instr.sureAddr, loadVar, hagg, hc]
  unfold execOp
  simp only [hx, Sem.run_bind, hl, Result.andThen_ok, Sem.run_pure]
theorem YieldsK.cell1 {K : Value → World → Prop} {ty : TypeId} {desc : TypeDesc} (hu : P.underlying ty = some desc) (hd : (match desc with | .struct _ | .array _ _ => false | _ => true) = true) {x : Operand} {d : Option Tmp} {tt : TypeId} {pos : String} {af : Array Edge} {gd : Option (Nat × Bool)} {ρ : Tmp → Value} {w : World} {a : Addr} {v : Value}
    (hx : evalR ρ x = .pointer (some a)) (hc : w.cell? a = some v) (hk : K v w) : YieldsK P K ((execOp (evalR ρ) ⟨d, .load ty x, tt, pos, af, gd⟩).run P w) :=
  YieldsK.value (run_cell1 hu hd hx hc) hk

end Go.Proofs.Ytfjmbcjcgdfkfaa
