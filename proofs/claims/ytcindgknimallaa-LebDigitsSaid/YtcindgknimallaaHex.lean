/- Digits of ids, in plain Lean. -/
import Derived.Lib.Bytealg
namespace Go.Proofs.Ytcindgknimallaa
def digs : List UInt8 := [48, 49, 50, 51, 52, 53, 54, 55, 56, 57, 97, 98, 99, 100, 101, 102]
def hexB (b : UInt8) : List UInt8 := [digs.getD (b.toNat / 16) 0, digs.getD (b.toNat % 16) 0]
def hexOf (id : List UInt8) : List UInt8 := id.flatMap hexB
theorem hexOf_take (id : List UInt8) (i : Nat) (hi : i < id.length) : hexOf (id.take (i + 1)) = hexOf (id.take i) ++ hexB (id.getD i 0) := by
  rw [List.take_succ_eq_append_getElem hi, hexOf, List.flatMap_append]
  simp [hexOf, hi]
theorem hexOf_length : ∀ id : List UInt8, (hexOf id).length = 2 * id.length
  | [] => rfl
  | b :: id => by
    have := hexOf_length id
    simp only [hexOf, List.flatMap_cons, List.length_append, List.length_cons] at *
    simp only [hexB, List.length_cons, List.length_nil]
    omega
/-- A digit's number. -/
def dg (c : UInt8) : Option Nat := if 48 ≤ c.toNat ∧ c.toNat ≤ 57 then some (c.toNat - 48) else if 97 ≤ c.toNat ∧ c.toNat ≤ 102 then some (c.toNat - 87) else none
def dgI (c : UInt8) : Int := match dg c with | some n => (n : Int) | none => -1
theorem dg_lt {c : UInt8} {n : Nat} (h : dg c = some n) : n < 16 := by
  unfold dg at h
  split at h
  · cases h; omega
  · split at h
    · cases h; omega
    · cases h
theorem index_fin : ∀ n : Fin 256, Lib.indexByte digs (UInt8.ofNat n.val) = dgI (UInt8.ofNat n.val) := by decide +kernel
theorem index_dg (c : UInt8) : Lib.indexByte digs c = dgI c := by
  have := index_fin ⟨c.toNat, c.toNat_lt⟩
  simpa using this
def okAt (s : List UInt8) (j : Nat) : Bool := (dg (s.getD (2 * j) 0)).isSome && (dg (s.getD (2 * j + 1) 0)).isSome
def byteAt (s : List UInt8) (j : Nat) : UInt8 := UInt8.ofNat (16 * (dg (s.getD (2 * j) 0)).getD 0 + (dg (s.getD (2 * j + 1) 0)).getD 0)
def unhex (s : List UInt8) : List UInt8 × Bool := if s.length = 64 ∧ (List.range 32).all (okAt s) = true then ((List.range 32).map (byteAt s), true) else (List.replicate 32 0, false)
theorem unhex_length (s : List UInt8) : (unhex s).1.length = 32 := by
  unfold unhex
  split <;> simp
theorem unhex_no {s : List UInt8} (h : ¬ (s.length = 64 ∧ (List.range 32).all (okAt s) = true)) : unhex s = (List.replicate 32 0, false) := if_neg h
theorem unhex_yes {s : List UInt8} (h1 : s.length = 64) (h2 : ∀ j, j < 32 → okAt s j = true) : unhex s = ((List.range 32).map (byteAt s), true) := if_pos ⟨h1, by
  rw [List.all_eq_true]
  intro j hj
  exact h2 j (by simpa using hj)⟩
/-- What has been read behind i pairs. -/
def pre (s : List UInt8) (i : Nat) : List UInt8 := (List.range i).map (byteAt s) ++ List.replicate (32 - i) 0
theorem pre_length (s : List UInt8) (i : Nat) (hi : i ≤ 32) : (pre s i).length = 32 := by
  unfold pre
  simp
  omega
theorem pre_step (s : List UInt8) (i : Nat) (hi : i < 32) : (pre s i).set i (byteAt s i) = pre s (i + 1) := by
  unfold pre
  rw [List.set_append_right _ _ (by simp), List.range_succ, List.map_append]
  simp only [List.length_map, List.length_range, Nat.sub_self, List.map_cons, List.map_nil, List.append_assoc]
  congr 1
  obtain ⟨k, hk⟩ : ∃ k, 32 - i = k + 1 := ⟨32 - i - 1, by omega⟩
  rw [hk, List.replicate_succ, List.set_cons_zero, show 32 - (i + 1) = k by omega]
  rfl
theorem pre_all (s : List UInt8) : pre s 32 = (List.range 32).map (byteAt s) := by simp [pre]
def startsB (id s : List UInt8) : Bool := decide (0 < s.length ∧ s.length ≤ (hexOf id).length ∧ (hexOf id).take s.length = s)
/-! ### There and back -/
theorem dg_fin : ∀ n : Fin 16, dg (digs.getD n.val 0) = some n.val := by decide +kernel
theorem digs_fin : ∀ n : Fin 256, (match dg (UInt8.ofNat n.val) with | some k => digs.getD k 0 == UInt8.ofNat n.val | none => true) = true := by decide +kernel
theorem dg_digs (n : Nat) (h : n < 16) : dg (digs.getD n 0) = some n := dg_fin ⟨n, h⟩
theorem digs_dg {c : UInt8} {k : Nat} (h : dg c = some k) : digs.getD k 0 = c := by
  have := digs_fin ⟨c.toNat, c.toNat_lt⟩
  simp only [UInt8.ofNat_toNat, h] at this
  simpa using this
theorem hexOf_get : ∀ (id : List UInt8) (j : Nat), j < id.length → (hexOf id).getD (2 * j) 0 = digs.getD ((id.getD j 0).toNat / 16) 0 ∧ (hexOf id).getD (2 * j + 1) 0 = digs.getD ((id.getD j 0).toNat % 16) 0
  | [], j, h => by simp at h
  | b :: id, 0, _ => ⟨rfl, rfl⟩
  | b :: id, j + 1, h => by
    have := hexOf_get id j (by simpa using h)
    have e : hexOf (b :: id) = digs.getD (b.toNat / 16) 0 :: digs.getD (b.toNat % 16) 0 :: hexOf id := rfl
    rw [e, show 2 * (j + 1) = 2 * j + 1 + 1 by omega]
    exact this
theorem unhex_hexOf (id : List UInt8) (h : id.length = 32) : unhex (hexOf id) = (id, true) := by
  have hg := fun j (hj : j < 32) => hexOf_get id j (by omega)
  have hlt := fun j => (id.getD j 0).toNat_lt
  have hd : ∀ j, j < 32 → dg ((hexOf id).getD (2 * j) 0) = some ((id.getD j 0).toNat / 16) ∧ dg ((hexOf id).getD (2 * j + 1) 0) = some ((id.getD j 0).toNat % 16) := fun j hj => by
    rw [(hg j hj).1, (hg j hj).2]
    exact ⟨dg_digs _ (by have := hlt j; omega), dg_digs _ (by omega)⟩
  rw [unhex_yes (by rw [hexOf_length, h]) (fun j hj => by unfold okAt; rw [(hd j hj).1, (hd j hj).2]; rfl)]
  congr 1
  apply List.ext_getElem (by simp [h])
  intro j h1 h2
  have hj : j < 32 := by simpa using h1
  simp only [List.getElem_map, List.getElem_range, byteAt]
  rw [(hd j hj).1, (hd j hj).2]
  simp only [Option.getD_some]
  rw [Nat.div_add_mod]
  simp [h2]
theorem hexOf_unhex {s : List UInt8} (h : (unhex s).2 = true) : hexOf (unhex s).1 = s := by
  unfold unhex at h ⊢
  split at h
  · rename_i hc
    rw [if_pos hc]
    obtain ⟨hl, hall⟩ := hc
    rw [List.all_eq_true] at hall
    have hs := hexOf_length ((List.range 32).map (byteAt s))
    rw [List.length_map, List.length_range] at hs
    have key : ∀ j, j < 32 → (hexOf ((List.range 32).map (byteAt s))).getD (2 * j) 0 = s.getD (2 * j) 0 ∧ (hexOf ((List.range 32).map (byteAt s))).getD (2 * j + 1) 0 = s.getD (2 * j + 1) 0 := fun j hj => by
      have h1 := hexOf_get ((List.range 32).map (byteAt s)) j (by simpa using hj)
      have h2 := hall j (by simpa using hj)
      unfold okAt at h2
      obtain ⟨a, ha⟩ : ∃ a, dg (s.getD (2 * j) 0) = some a := by
        cases hx : dg (s.getD (2 * j) 0) with
        | none => rw [hx] at h2; simp at h2
        | some a => exact ⟨a, rfl⟩
      obtain ⟨b, hb⟩ : ∃ b, dg (s.getD (2 * j + 1) 0) = some b := by
        cases hx : dg (s.getD (2 * j + 1) 0) with
        | none => rw [hx] at h2; simp at h2
        | some b => exact ⟨b, rfl⟩
      have hv : (((List.range 32).map (byteAt s)).getD j 0).toNat = 16 * a + b := by
        have ha' := dg_lt ha
        have hb' := dg_lt hb
        have : ((List.range 32).map (byteAt s)).getD j 0 = byteAt s j := by simp [hj]
        rw [this]
        unfold byteAt
        rw [ha, hb]
        simp
        omega
      have ha' := dg_lt ha
      have hb' := dg_lt hb
      rw [h1.1, h1.2, hv]
      rw [show (16 * a + b) / 16 = a by omega, show (16 * a + b) % 16 = b by omega, digs_dg ha, digs_dg hb]
      exact ⟨rfl, rfl⟩
    apply List.ext_getElem (by show (hexOf ((List.range 32).map (byteAt s))).length = _; omega)
    intro i h1 h2
    have hk := key (i / 2) (by omega)
    have e1 : (hexOf ((List.range 32).map (byteAt s))).getD i 0 = s.getD i 0 := by
      rcases Nat.mod_two_eq_zero_or_one i with hm | hm
      · have : i = 2 * (i / 2) := by omega
        rw [this]; exact hk.1
      · have : i = 2 * (i / 2) + 1 := by omega
        rw [this]; exact hk.2
    simpa [h1, h2] using e1
  · cases h
end Go.Proofs.Ytcindgknimallaa
