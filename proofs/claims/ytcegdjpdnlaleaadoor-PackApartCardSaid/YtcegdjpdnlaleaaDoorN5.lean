/- Part 5 of what stands behind these statements: laws and walks of the functions that are reached. Conditions: those that each theorem names. -/
import Derived.Test.YtcegdjpdnlaleaaDoorN4
set_option linter.unusedVariables false
set_option linter.unusedSimpArgs false
namespace Go.Proofs.YtcegdjpdnlaleaaDoor
open Go.RowKit
theorem take_app {α : Type} (A X : List α) (n : Nat) (h : A.length ≤ n) : (A ++ X).take n = A ++ X.take (n - A.length) := by
  rw [List.take_append, List.take_of_length_le h]
theorem drop_app {α : Type} (A X : List α) (n : Nat) : (A ++ X).drop (A.length + n) = X.drop n := by
  rw [List.drop_append, List.drop_of_length_le (by omega), List.nil_append, show A.length + n - A.length = n by omega]
theorem textB_len (s : Bs) : (textB s).length = (Lib.uvarint s.length).length + s.length := by simp [textB]
theorem textP_enc (A s X : Bs) (fin : Nat) (hs : s.length ≤ 1048576) (h1 : A.length + (textB s).length ≤ fin) : textP (A ++ (textB s ++ X)) A.length fin = some (s, A.length + (textB s).length) := by
  have hl := textB_len s
  have ht : (A ++ (textB s ++ X)).take fin = A ++ (Lib.uvarint s.length ++ (s ++ X.take (fin - A.length - (textB s).length))) := by
    rw [take_app _ _ _ (by omega), take_app _ _ _ (by omega)]
    simp only [textB, List.append_assoc]
  unfold textP
  rw [ht, List.drop_left, lebDec_uv _ (by omega)]
  dsimp only
  rw [if_neg (by omega), if_neg (by simp only [List.length_append]; omega)]
  congr 1
  rw [drop_app, List.drop_left, List.take_left]
  rw [hl, Nat.add_assoc]
def entB (ps : List Pt) (i : Nat) (s : BS) : Ent :=
  if (ps.getD i dPt).base < 0 then ⟨s.b.length, false, List.replicate 32 0, (ps.getD i dPt).bytes⟩
  else ⟨s.b.length, true, s.ids.getD (ps.getD i dPt).base.toNat [], makeP (ps.getD (ps.getD i dPt).base.toNat dPt).bytes (ps.getD i dPt).bytes⟩
def chunkB (ps : List Pt) (i : Nat) (s : BS) : Bs :=
  if (ps.getD i dPt).base < 0 then [0] ++ textB (ps.getD i dPt).bytes
  else [1] ++ s.ids.getD (ps.getD i dPt).base.toNat [] ++ textB (makeP (ps.getD (ps.getD i dPt).base.toNat dPt).bytes (ps.getD i dPt).bytes)
theorem bnext_b (ps : List Pt) (i : Nat) (s : BS) : (bnext ps (ps.getD i dPt) s).b = s.b ++ chunkB ps i s := by
  unfold bnext chunkB
  dsimp only
  split <;> simp only [List.append_assoc]
theorem entOne_enc {ps : List Pt} (hL : LightP ps) {i : Nat} (hi : i < ps.length) {s : BS} (h : BOk i s) (hb : (ps.getD i dPt).base < i) (X : Bs) (fin : Nat) (hf : s.b.length + (chunkB ps i s).length ≤ fin) :
    entOne (s.b ++ (chunkB ps i s ++ X)) fin s.b.length = some (entB ps i s, s.b.length + (chunkB ps i s).length) := by
  have hp := hL.2 _ (getD_mem dPt hi)
  by_cases hbase : (ps.getD i dPt).base < 0
  · have hc : chunkB ps i s = [0] ++ textB (ps.getD i dPt).bytes := if_pos hbase
    have he : entB ps i s = ⟨s.b.length, false, List.replicate 32 0, (ps.getD i dPt).bytes⟩ := if_pos hbase
    rw [hc] at hf ⊢
    rw [he]
    have hg : (s.b ++ ([0] ++ textB (ps.getD i dPt).bytes ++ X)).getD s.b.length 0 = 0 := by
      rw [List.getD_eq_getElem?_getD, List.getElem?_append_right (Nat.le_refl _), Nat.sub_self]; rfl
    have ht := textP_enc (s.b ++ [0]) (ps.getD i dPt).bytes X fin (by omega) (by simp only [List.length_append] at hf ⊢; omega)
    have e : s.b ++ [0] ++ (textB (ps.getD i dPt).bytes ++ X) = s.b ++ ([0] ++ textB (ps.getD i dPt).bytes ++ X) := by simp only [List.append_assoc]
    rw [e, List.length_append, List.length_singleton] at ht
    unfold entOne
    rw [hg, if_pos ⟨by simp only [List.length_append, List.length_singleton] at hf; omega, by decide⟩, if_neg (by decide), ht, Option.map_some]
    simp only [List.length_append, List.length_singleton, Nat.add_assoc]
  · have hc : chunkB ps i s = [1] ++ s.ids.getD (ps.getD i dPt).base.toNat [] ++ textB (makeP (ps.getD (ps.getD i dPt).base.toNat dPt).bytes (ps.getD i dPt).bytes) := if_neg hbase
    have he : entB ps i s = ⟨s.b.length, true, s.ids.getD (ps.getD i dPt).base.toNat [], makeP (ps.getD (ps.getD i dPt).base.toNat dPt).bytes (ps.getD i dPt).bytes⟩ := if_neg hbase
    have hb1 : (ps.getD i dPt).base.toNat < s.ids.length := by rw [h.ids]; omega
    have h32 := h.len _ (getD_mem [] hb1)
    have hq := hL.2 _ (getD_mem dPt (l := ps) (i := (ps.getD i dPt).base.toNat) (by rw [h.ids] at hb1; omega))
    have hm := makeP_len (ps.getD (ps.getD i dPt).base.toNat dPt).bytes (ps.getD i dPt).bytes (by omega) (by omega)
    rw [hc] at hf ⊢
    rw [he]
    generalize makeP (ps.getD (ps.getD i dPt).base.toNat dPt).bytes (ps.getD i dPt).bytes = m at hm hf ⊢
    generalize s.ids.getD (ps.getD i dPt).base.toNat [] = id at h32 hf ⊢
    have hg : (s.b ++ ([1] ++ id ++ textB m ++ X)).getD s.b.length 0 = 1 := by
      rw [List.getD_eq_getElem?_getD, List.getElem?_append_right (Nat.le_refl _), Nat.sub_self]; rfl
    have ht := textP_enc (s.b ++ [1] ++ id) m X fin (by omega) (by simp only [List.length_append] at hf ⊢; omega)
    have e : s.b ++ [1] ++ id ++ (textB m ++ X) = s.b ++ ([1] ++ id ++ textB m ++ X) := by simp only [List.append_assoc]
    rw [e, List.length_append, List.length_append, List.length_singleton, h32] at ht
    have hd : ((s.b ++ ([1] ++ id ++ textB m ++ X)).take fin).drop (s.b.length + 1) = id ++ (textB m ++ X.take (fin - s.b.length - 1 - id.length - (textB m).length)) := by
      simp only [List.length_append, List.length_singleton] at hf
      have e2 : s.b ++ ([1] ++ id ++ textB m ++ X) = s.b ++ ([1] ++ (id ++ (textB m ++ X))) := by simp only [List.append_assoc]
      rw [e2, take_app _ _ _ (by omega), take_app [1] _ _ (by simp only [List.length_singleton]; omega), take_app id _ _ (by simp only [List.length_singleton]; omega), take_app (textB m) _ _ (by simp only [List.length_singleton]; omega), drop_app]
      rfl
    unfold entOne
    rw [hg, if_pos ⟨by simp only [List.length_append, List.length_singleton] at hf; omega, by decide⟩, if_pos rfl, if_neg (by simp only [List.length_append, List.length_singleton] at hf; omega), ht, Option.map_some, hd, ← h32, List.take_left]
    simp only [List.length_append, List.length_singleton, Nat.add_assoc]
structure BInv (ps : List Pt) (i : Nat) (s : BS) (es : List Ent) : Prop where
  ok : BOk i s
  len : es.length = i
  ids : s.ids = (ps.take i).map fun p => Sha.sum p.bytes
  nodup : s.ids.Nodup
  pos : es.map Ent.pos = s.places
  asc : s.places.Pairwise (· < ·)
  top : ∀ p ∈ s.places, p < s.b.length
  ent : ∀ X fin, s.b.length ≤ fin → entGo (s.b ++ X) fin (1 + (Lib.uvarint ps.length).length) i = some (es, s.b.length)
  flat : ∀ j, j < i → (ps.getD j dPt).base < 0 → (es.getD j dEnt.1).based = false ∧ (es.getD j dEnt.1).bytes = (ps.getD j dPt).bytes ∧ s.depths.getD j 0 = 0
  upon : ∀ j, j < i → ¬ (ps.getD j dPt).base < 0 → (ps.getD j dPt).base.toNat < j ∧ (es.getD j dEnt.1).based = true ∧ (es.getD j dEnt.1).base = s.ids.getD (ps.getD j dPt).base.toNat [] ∧ (es.getD j dEnt.1).bytes = makeP (ps.getD (ps.getD j dPt).base.toNat dPt).bytes (ps.getD j dPt).bytes ∧ s.depths.getD j 0 = s.depths.getD (ps.getD j dPt).base.toNat 0 + 1
theorem getD_app_l {α : Type} (l m : List α) (d : α) {i : Nat} (h : i < l.length) : (l ++ m).getD i d = l.getD i d := by
  rw [List.getD_eq_getElem?_getD, List.getD_eq_getElem?_getD, List.getElem?_append_left h]
theorem getD_snoc {α : Type} (l : List α) (x d : α) {i : Nat} (h : l.length = i) : (l ++ [x]).getD i d = x := by
  rw [List.getD_eq_getElem?_getD, List.getElem?_append_right (by omega), h, Nat.sub_self]; rfl
theorem bgo_inv {ps : List Pt} (hL : LightP ps) : ∀ (i : Nat) (s : BS), i ≤ ps.length → bgo ps i = .ok s → ∃ es, BInv ps i s es
  | 0, s, hi, h => by
    have hk := bgo_ok hL 0 s hi h
    cases h
    refine ⟨[], hk, rfl, rfl, List.nodup_nil, rfl, List.Pairwise.nil, (fun p hp => by cases hp), fun X fin hf => ?_, (fun j hj => by omega), (fun j hj => by omega)⟩
    show some ([], _) = some ([], _)
    rw [List.length_cons, Nat.add_comm]
  | i + 1, s, hi, h => by
    have hk := bgo_ok hL (i + 1) s hi h
    cases hb : bgo ps i with
    | error e => rw [bgo_err hb 1] at h; cases h
    | ok s0 =>
      rw [bgo_step hb] at h
      obtain ⟨es, I⟩ := bgo_inv hL i s0 (by omega) hb
      unfold pstep at h
      split at h
      · cases h
      · split at h
        · cases h
        · split at h
          · cases h
          · rename_i h1 h2 h3
            cases h
            have hbase : (ps.getD i dPt).base < i := by omega
            have hl : s0.ids.length = i := I.ok.ids
            have hd : s0.depths.length = i := I.ok.depths
            have hbn := bnext_b ps i s0
            have hcl : 1 ≤ (chunkB ps i s0).length := by unfold chunkB; split <;> simp only [List.length_append, List.length_singleton] <;> omega
            refine ⟨es ++ [entB ps i s0], hk, by rw [List.length_append, I.len]; rfl, ?_, ?_, ?_, ?_, ?_, ?_, ?_, ?_⟩
            · show s0.ids ++ [_] = _
              rw [I.ids, List.take_succ_eq_append_getElem (by omega), List.map_append, List.map_singleton]
              rw [List.getD_eq_getElem?_getD, List.getElem?_eq_getElem (show i < ps.length by omega)]; rfl
            · show (s0.ids ++ [_]).Nodup
              rw [List.nodup_append]
              refine ⟨I.nodup, by simp, fun a ha b hb e => ?_⟩
              rw [List.mem_singleton.1 hb] at e
              exact h2 (e ▸ ha)
            · show _ = s0.places ++ [_]
              rw [List.map_append, I.pos]
              congr 1
              unfold entB
              split <;> rfl
            · show (s0.places ++ [_]).Pairwise _
              rw [List.pairwise_append]
              exact ⟨I.asc, by simp, fun a ha b hb => by rw [List.mem_singleton.1 hb]; exact I.top a ha⟩
            · intro p hp
              rw [hbn, List.length_append]
              rcases List.mem_append.1 (show p ∈ s0.places ++ [_] from hp) with hp | hp
              · have := I.top p hp; omega
              · rw [List.mem_singleton.1 hp]; omega
            · intro X fin hf
              rw [hbn, List.length_append] at hf ⊢
              rw [List.append_assoc, entGo_step (I.ent (chunkB ps i s0 ++ X) fin (by omega)), entOne_enc hL (by omega) I.ok hbase X fin hf]
              rfl
            · intro j hj hjb
              by_cases e : j = i
              · subst e
                rw [getD_snoc _ _ _ I.len]
                have he : entB ps j s0 = ⟨s0.b.length, false, List.replicate 32 0, (ps.getD j dPt).bytes⟩ := if_pos hjb
                rw [he]
                refine ⟨rfl, rfl, ?_⟩
                show (s0.depths ++ [_]).getD j 0 = 0
                rw [getD_snoc _ _ _ hd]
                exact if_pos hjb
              · rw [getD_app_l _ _ _ (by rw [I.len]; omega)]
                have := I.flat j (by omega) hjb
                refine ⟨this.1, this.2.1, ?_⟩
                show (s0.depths ++ [_]).getD j 0 = 0
                rw [getD_app_l _ _ _ (by omega)]
                exact this.2.2
            · intro j hj hjb
              have e1 : ∀ k, k < i → (bnext ps (ps.getD i dPt) s0).ids.getD k [] = s0.ids.getD k [] := fun k hk => getD_app_l _ _ _ (by omega)
              have e2 : ∀ k, k < i → (bnext ps (ps.getD i dPt) s0).depths.getD k 0 = s0.depths.getD k 0 := fun k hk => getD_app_l _ _ _ (by omega)
              by_cases e : j = i
              · subst e
                rw [getD_snoc _ _ _ I.len]
                have he : entB ps j s0 = ⟨s0.b.length, true, s0.ids.getD (ps.getD j dPt).base.toNat [], makeP (ps.getD (ps.getD j dPt).base.toNat dPt).bytes (ps.getD j dPt).bytes⟩ := if_neg hjb
                rw [he]
                have hlt : (ps.getD j dPt).base.toNat < j := by omega
                refine ⟨hlt, rfl, (e1 _ hlt).symm, rfl, ?_⟩
                rw [e2 _ hlt]
                show (s0.depths ++ [_]).getD j 0 = _
                rw [getD_snoc _ _ _ hd]
                exact if_neg hjb
              · rw [getD_app_l _ _ _ (by rw [I.len]; omega)]
                have := I.upon j (by omega) hjb
                have hlt := this.1
                refine ⟨hlt, this.2.1, ?_, this.2.2.2.1, ?_⟩
                · rw [e1 _ (by omega)]; exact this.2.2.1
                · rw [e2 _ (by omega), e2 _ (by omega)]; exact this.2.2.2.2
open Go.RowKit
theorem lookup_zip_at {α β : Type} [BEq α] [LawfulBEq α] : ∀ (l : List α) (m : List β) (j : Nat) (x : α) (y : β), l.Nodup → l[j]? = some x → m[j]? = some y → (l.zip m).lookup x = some y
  | [], _, _, _, _, _, h, _ => by simp at h
  | _ :: _, [], _, _, _, _, _, h => by simp at h
  | a :: l, b :: m, 0, x, y, _, h1, h2 => by
    simp only [List.getElem?_cons_zero, Option.some.injEq] at h1 h2
    rw [h1, h2, List.zip_cons_cons, List.lookup_cons]; simp
  | a :: l, b :: m, j + 1, x, y, hn, h1, h2 => by
    simp only [List.getElem?_cons_succ] at h1 h2
    have hn' := List.nodup_cons.1 hn
    have : (x == a) = false := by
      simp only [beq_eq_false_iff_ne]
      intro e
      exact hn'.1 (e ▸ List.mem_of_getElem? h1)
    rw [List.zip_cons_cons, List.lookup_cons, this]
    exact lookup_zip_at l m j x y hn'.2 h1 h2
theorem lookup_zip_map {α β γ : Type} [BEq α] (f : β → γ) (x : α) : ∀ (l : List α) (m : List β), (l.zip (m.map f)).lookup x = ((l.zip m).lookup x).map f
  | [], _ => by simp
  | _ :: _, [] => by simp
  | a :: l, b :: m => by
    rw [List.map_cons, List.zip_cons_cons, List.zip_cons_cons, List.lookup_cons, List.lookup_cons, lookup_zip_map f x l m]
    split <;> rfl
def entG (s : BS) (es : List Ent) (id : Bs) : Option Ent := (s.ids.zip es).lookup id
theorem some_getD {α : Type} {l : List α} {i : Nat} (d : α) (h : i < l.length) : l[i]? = some (l.getD i d) := by
  rw [List.getD_eq_getElem?_getD, List.getElem?_eq_getElem h]; rfl
section
variable {ps : List Pt} {n : Nat} {s : BS} {es : List Ent}
theorem BInv.at_ (I : BInv ps n s es) {j : Nat} (hj : j < n) : entG s es (s.ids.getD j []) = some (es.getD j dEnt.1) :=
  lookup_zip_at _ _ j _ _ I.nodup (some_getD [] (by rw [I.ok.ids]; exact hj)) (some_getD _ (by rw [I.len]; exact hj))
theorem BInv.place (I : BInv ps n s es) (id : Bs) : placesG s id = (entG s es id).map Ent.pos := by
  unfold placesG entG
  rw [← I.pos, lookup_zip_map]
theorem BInv.ix (I : BInv ps n s es) {id : Bs} (h : id ∈ s.ids) : ∃ j, j < n ∧ s.ids.getD j [] = id := by
  obtain ⟨j, hj, e⟩ := List.getElem_of_mem h
  refine ⟨j, by rw [I.ok.ids] at hj; exact hj, ?_⟩
  rw [List.getD_eq_getElem?_getD, List.getElem?_eq_getElem hj]
  exact e
theorem BInv.miss (I : BInv ps n s es) {id : Bs} (h : id ∉ s.ids) : entG s es id = none := lookup_zip_none _ _ _ h
theorem BInv.posj (I : BInv ps n s es) {j : Nat} (hj : j < n) : s.places.getD j 0 = (es.getD j dEnt.1).pos := by
  rw [← I.pos, List.getD_eq_getElem?_getD, List.getElem?_map, some_getD dEnt.1 (by rw [I.len]; exact hj)]; rfl
theorem BInv.lt (I : BInv ps n s es) {i j : Nat} (hi : i < j) (hj : j < n) : (es.getD i dEnt.1).pos < (es.getD j dEnt.1).pos := by
  rw [← I.posj (by omega), ← I.posj hj]
  have h1 : i < s.places.length := by rw [I.ok.places]; omega
  have h2 : j < s.places.length := by rw [I.ok.places]; omega
  have := List.pairwise_iff_getElem.1 I.asc i j h1 h2 hi
  rw [List.getD_eq_getElem?_getD, List.getElem?_eq_getElem h1, List.getD_eq_getElem?_getD, List.getElem?_eq_getElem h2]
  exact this
theorem BInv.inj (I : BInv ps n s es) {i j : Nat} (hi : i < n) (hj : j < n) (h : (es.getD i dEnt.1).pos = (es.getD j dEnt.1).pos) : i = j := by
  rcases Nat.lt_trichotomy i j with h1 | h1 | h1
  · have := I.lt h1 hj; omega
  · exact h1
  · have := I.lt h1 hi; omega
theorem BInv.placeGo (I : BInv ps n s es) : ∀ (i j : Nat), j < i → i ≤ n → placeGo Ent.pos dEnt.1 es i (es.getD j dEnt.1).pos = some (es.getD j dEnt.1)
  | 0, _, h, _ => by omega
  | i + 1, j, h, hi => by
    show updM (Go.Proofs.YtcegdjpdnlaleaaDoor.placeGo Ent.pos dEnt.1 es i) _ _ _ = _
    unfold updM
    by_cases e : j = i
    · subst e; rw [if_pos rfl]
    · rw [if_neg (fun q => e (I.inj (by omega) (by omega) q))]
      exact I.placeGo i j (by omega) (by omega)
end
def rowB (s : BS) (id : Bs) : Bs := id ++ fourP ((placesG s id).getD 0)
def rowsB (s : BS) : Bs := (sortB s.ids).flatMap (rowB s)
theorem drop_flat {α : Type} (g : α → Bs) (k : Nat) : ∀ (l : List α) (i : Nat), (∀ x ∈ l, (g x).length = k) → (l.flatMap g).drop (k * i) = (l.drop i).flatMap g
  | [], i, _ => by simp
  | a :: l, 0, _ => by simp
  | a :: l, i + 1, h => by
    rw [List.flatMap_cons, List.drop_succ_cons, show k * (i + 1) = (g a).length + k * i by rw [h a (by simp), Nat.mul_succ, Nat.add_comm], drop_app]
    exact drop_flat g k l i fun x hx => h x (by simp [hx])
theorem drop_getD {α : Type} {l : List α} {i : Nat} (d : α) (h : i < l.length) : l.drop i = l.getD i d :: l.drop (i + 1) := by
  rw [List.drop_eq_getElem_cons h, List.getD_eq_getElem?_getD, List.getElem?_eq_getElem h]; rfl
section
variable {ps : List Pt} {n : Nat} {s : BS} {es : List Ent}
theorem BInv.sortlen (I : BInv ps n s es) : (sortB s.ids).length = n := by rw [sortB_len, I.ok.ids]
theorem BInv.sortnd (I : BInv ps n s es) : (sortB s.ids).Nodup := (sortB_perm s.ids).nodup_iff.2 I.nodup
theorem mem_sort {l : List Bs} {x : Bs} : x ∈ sortB l ↔ x ∈ l := (sortB_perm l).mem_iff
theorem BInv.row (I : BInv ps n s es) {i : Nat} (hi : i < n) : (rowsB s).drop (36 * i) = rowB s ((sortB s.ids).getD i []) ++ ((sortB s.ids).drop (i + 1)).flatMap (rowB s) := by
  unfold rowsB
  rw [drop_flat (rowB s) 36 _ i (fun x hx => by unfold rowB; rw [List.length_append, fourP_len, I.ok.len x (mem_sort.1 hx)]), drop_getD [] (by rw [I.sortlen]; exact hi), List.flatMap_cons]
theorem BInv.sorted_mem (I : BInv ps n s es) {i : Nat} (hi : i < n) : (sortB s.ids).getD i [] ∈ s.ids := mem_sort.1 (getD_mem [] (by rw [I.sortlen]; exact hi))
theorem BInv.rowId (I : BInv ps n s es) {i : Nat} (hi : i < n) : rowId (rowsB s) i = (sortB s.ids).getD i [] := by
  unfold Go.Proofs.YtcegdjpdnlaleaaDoor.rowId
  have h32 := I.ok.len _ (I.sorted_mem hi)
  rw [I.row hi]
  unfold rowB
  rw [List.append_assoc, ← h32, List.take_left]
theorem BInv.rowAt (hL : LightP ps) (hn : n ≤ ps.length) (I : BInv ps n s es) {i : Nat} (hi : i < n) : rowAt (rowsB s) i = (placesG s ((sortB s.ids).getD i [])).getD 0 := by
  unfold Go.Proofs.YtcegdjpdnlaleaaDoor.rowAt
  have hm := I.sorted_mem hi
  have h32 := I.ok.len _ hm
  rw [I.row hi]
  unfold rowB
  rw [List.append_assoc, ← h32, List.drop_left]
  refine numP_fourP _ ?_ _
  obtain ⟨j, hj, e⟩ := I.ix hm
  rw [← e, I.place, I.at_ hj, Option.map_some, Option.getD_some, ← I.posj hj]
  have h1 := I.ok.pl _ (getD_mem 0 (l := s.places) (i := j) (by rw [I.ok.places]; exact hj))
  have := hL.1
  omega
theorem BInv.fresh (I : BInv ps n s es) {i : Nat} (hi : i < n) : (sortB s.ids).getD i [] ∉ (sortB s.ids).take i := by
  intro h
  obtain ⟨j, hj, e⟩ := List.getElem_of_mem h
  rw [List.length_take, I.sortlen] at hj
  have hlen := I.sortlen
  have := List.pairwise_iff_getElem.1 I.sortnd j i (by omega) (by omega) (by omega)
  apply this
  rw [List.getElem_take] at e
  rw [e, List.getD_eq_getElem?_getD, List.getElem?_eq_getElem (by omega)]
  rfl
theorem BInv.index (hL : LightP ps) (hn : n ≤ ps.length) (I : BInv ps n s es) : ∀ i, i ≤ n → ∃ S, ixGo Ent.pos dEnt.1 (rowsB s) es i = some S ∧ S.ids = (sortB s.ids).take i ∧ (∀ id ∈ s.ids, id ∉ (sortB s.ids).take i → S.G ((placesG s id).getD 0) = entG s es id) ∧ ∀ id, S.M id = if id ∈ (sortB s.ids).take i then entG s es id else none
  | 0, _ => by
    refine ⟨_, rfl, rfl, fun id hid _ => ?_, fun id => by simp⟩
    obtain ⟨j, hj, rfl⟩ := I.ix hid
    rw [I.place, I.at_ hj, Option.map_some, Option.getD_some, I.len]
    exact I.placeGo n j hj (Nat.le_refl _)
  | i + 1, hi => by
    obtain ⟨S, h1, h2, h3, h4⟩ := I.index hL hn i (by omega)
    have hlen := I.sortlen
    have hx := I.sorted_mem (show i < n by omega)
    have hf := I.fresh (show i < n by omega)
    obtain ⟨j, hj, e⟩ := I.ix hx
    have hc : entG s es ((sortB s.ids).getD i []) = some (es.getD j dEnt.1) := by rw [← e]; exact I.at_ hj
    have ht : (sortB s.ids).take (i + 1) = (sortB s.ids).take i ++ [(sortB s.ids).getD i []] := by
      rw [List.take_succ_eq_append_getElem (by omega), List.getD_eq_getElem?_getD, List.getElem?_eq_getElem (show i < (sortB s.ids).length by omega)]; rfl
    have hG : S.G (Go.Proofs.YtcegdjpdnlaleaaDoor.rowAt (rowsB s) i) = some (es.getD j dEnt.1) := by
      rw [I.rowAt hL hn (by omega), h3 _ hx hf, hc]
    have ho : i = 0 ∨ Lib.compareBytes (S.ids.getD (i - 1) []) (Go.Proofs.YtcegdjpdnlaleaaDoor.rowId (rowsB s) i) < 0 := by
      rcases Nat.eq_zero_or_pos i with h0 | h0
      · exact .inl h0
      · refine .inr ?_
        rw [I.rowId (by omega), h2]
        have g1 : ((sortB s.ids).take i).getD (i - 1) [] = (sortB s.ids)[i - 1]'(by omega) := by
          rw [List.getD_eq_getElem?_getD, List.getElem?_take, if_pos (by omega), List.getElem?_eq_getElem (by omega)]; rfl
        have g2 : (sortB s.ids).getD i [] = (sortB s.ids)[i]'(by omega) := by
          rw [List.getD_eq_getElem?_getD, List.getElem?_eq_getElem (by omega)]; rfl
        rw [g1, g2]
        have a1 := List.pairwise_iff_getElem.1 (sortB_asc s.ids) (i - 1) i (by omega) (by omega) (by omega)
        have a2 := List.pairwise_iff_getElem.1 I.sortnd (i - 1) i (by omega) (by omega) (by omega)
        have a3 : Lib.compareBytes ((sortB s.ids)[i - 1]'(by omega)) ((sortB s.ids)[i]'(by omega)) ≠ 0 := fun q => a2 (cmp_zero q)
        omega
    refine ⟨ixNext Ent.pos (rowsB s) i S (es.getD j dEnt.1), ?_, ?_, ?_, ?_⟩
    · rw [ixGo_step h1]
      unfold ixStep
      rw [hG]
      exact if_pos ho
    · show S.ids ++ [_] = _
      rw [h2, I.rowId (by omega), ht]
    · intro id hid hni
      rw [ht] at hni
      simp only [List.mem_append, List.mem_singleton, not_or] at hni
      obtain ⟨k, hk, rfl⟩ := I.ix hid
      have hne : (placesG s (s.ids.getD k [])).getD 0 ≠ (es.getD j dEnt.1).pos := by
        rw [I.place, I.at_ hk, Option.map_some, Option.getD_some]
        intro q
        have := I.inj hk hj q
        subst this
        exact hni.2 e
      show updM S.G _ none _ = _
      unfold updM
      rw [if_neg hne]
      exact h3 _ hid hni.1
    · intro id
      show updM S.M _ _ _ = _
      unfold updM
      rw [I.rowId (by omega), ht, h4]
      by_cases q : id = (sortB s.ids).getD i []
      · rw [if_pos q, if_pos (by rw [q]; simp), q, hc]
      · rw [if_neg q]
        by_cases q2 : id ∈ (sortB s.ids).take i
        · rw [if_pos q2, if_pos (by simp [q2])]
        · rw [if_neg q2, if_neg (by simp only [List.mem_append, List.mem_singleton, not_or]; exact ⟨q2, q⟩)]
def entE (s : BS) (es : List Ent) (k : Bs) : Ent := (entG s es k).getD dEnt.1
theorem BInv.E (I : BInv ps n s es) {j : Nat} (hj : j < n) : entE s es (s.ids.getD j []) = es.getD j dEnt.1 := by unfold entE; rw [I.at_ hj]; rfl
theorem BInv.depth (I : BInv ps n s es) : ∀ (m j : Nat), j < n → s.depths.getD j 0 ≤ m → depthGo (entE s es) m (es.getD j dEnt.1) = some (s.depths.getD j 0)
  | m, j, hj, hm => by
    by_cases hb : (ps.getD j dPt).base < 0
    · have := I.flat j hj hb
      rw [depthGo_flat this.1, this.2.2]
    · obtain ⟨h1, h2, h3, h4, h5⟩ := I.upon j hj hb
      cases m with
      | zero => omega
      | succ m =>
        rw [depthGo_step h2, h3, I.E (by omega), I.depth m _ (by omega) (by omega), h5]
        rfl
theorem BInv.chain (hL : LightP ps) (hn : n ≤ ps.length) (I : BInv ps n s es) : ∀ (m j : Nat), j < n → s.depths.getD j 0 = m → chainGo (entE s es) (m + 1) (s.ids.getD j []) = some ((ps.getD j dPt).bytes, m)
  | m, j, hj, hm => by
    have hp := hL.2 _ (getD_mem dPt (l := ps) (i := j) (by omega))
    by_cases hb : (ps.getD j dPt).base < 0
    · obtain ⟨h1, h2, h3⟩ := I.flat j hj hb
      rw [chainGo_flat (by rw [I.E hj]; exact h1), I.E hj, h2, if_pos (by omega)]
      rw [h3] at hm
      rw [hm]
    · obtain ⟨h1, h2, h3, h4, h5⟩ := I.upon j hj hb
      have hq := hL.2 _ (getD_mem dPt (l := ps) (i := (ps.getD j dPt).base.toNat) (by omega))
      cases m with
      | zero => omega
      | succ m =>
        rw [chainGo_based (by rw [I.E hj]; exact h2), I.E hj, h3, I.chain hL hn m _ (by omega) (by omega), h4]
        show (if _ then (if _ then some (_, m + 1) else none) else none) = _
        dsimp only
        rw [apply_make _ _ (by omega) (by omega), if_pos rfl, if_pos (by dsimp only; omega)]
def objB (ps : List Pt) (s : BS) (id : Bs) : Option (Bs × Nat) := (s.ids.zip ((ps.map Pt.bytes).zip s.depths)).lookup id
theorem BInv.obj (hL : LightP ps) (hn : n = ps.length) (I : BInv ps n s es) {j : Nat} (hj : j < n) : objB ps s (s.ids.getD j []) = some ((ps.getD j dPt).bytes, s.depths.getD j 0) :=
  lookup_zip_at _ _ j _ _ I.nodup (some_getD [] (by rw [I.ok.ids]; exact hj)) (by
    rw [List.getElem?_zip_eq_some]
    dsimp only
    exact ⟨by rw [List.getElem?_map, some_getD dPt (by omega)]; rfl, some_getD 0 (by rw [I.ok.depths]; exact hj)⟩)
theorem BInv.sum (hn : n ≤ ps.length) (I : BInv ps n s es) {j : Nat} (hj : j < n) : Sha.sum (ps.getD j dPt).bytes = s.ids.getD j [] := by
  have : s.ids[j]? = some (Sha.sum (ps.getD j dPt).bytes) := by
    rw [I.ids, List.getElem?_map, List.getElem?_take, if_pos hj, some_getD dPt (by omega)]; rfl
  rw [show s.ids.getD j [] = (s.ids[j]?).getD [] from List.getD_eq_getElem?_getD, this]; rfl
theorem BInv.objs (hL : LightP ps) (hn : n = ps.length) (I : BInv ps n s es) : ∀ i, i ≤ n → ∃ o, objGo (entE s es) (sortB s.ids) i = .ok o ∧ o.total ≤ 200 * i ∧ ∀ id, o.O id = if id ∈ (sortB s.ids).take i then objB ps s id else none
  | 0, _ => ⟨_, rfl, Nat.le_refl _, fun id => by simp⟩
  | i + 1, hi => by
    obtain ⟨o, h1, h2, h3⟩ := I.objs hL hn i (by omega)
    have hlen := I.sortlen
    have hx := I.sorted_mem (show i < n by omega)
    obtain ⟨j, hj, e⟩ := I.ix hx
    have hp := hL.2 _ (getD_mem dPt (l := ps) (i := j) (by omega))
    have h60 := hL.1
    have hd := I.ok.dp _ (getD_mem 0 (l := s.depths) (i := j) (by rw [I.ok.depths]; exact hj))
    have ht : (sortB s.ids).take (i + 1) = (sortB s.ids).take i ++ [(sortB s.ids).getD i []] := by
      rw [List.take_succ_eq_append_getElem (by omega), List.getD_eq_getElem?_getD, List.getElem?_eq_getElem (show i < (sortB s.ids).length by omega)]; rfl
    have g : objStep (entE s es) ((sortB s.ids).getD i []) o = .ok ⟨o.total + (ps.getD j dPt).bytes.length, updM o.O ((sortB s.ids).getD i []) (some ((ps.getD j dPt).bytes, s.depths.getD j 0))⟩ := by
      rw [← e, objStep_eq (by rw [I.E hj]; exact I.depth 50 j hj hd) (I.chain hL (by omega) _ j hj rfl), if_pos (I.sum (by omega) hj), if_pos (by omega)]
    refine ⟨_, by rw [objGo_step h1]; exact g, by dsimp only; omega, fun id => ?_⟩
    dsimp only
    unfold updM
    rw [ht, h3]
    by_cases q : id = (sortB s.ids).getD i []
    · rw [if_pos q, if_pos (by rw [q]; simp), q, ← e, I.obj hL hn hj]
    · rw [if_neg q]
      by_cases q2 : id ∈ (sortB s.ids).take i
      · rw [if_pos q2, if_pos (by simp [q2])]
      · rw [if_neg q2, if_neg (by simp only [List.mem_append, List.mem_singleton, not_or]; exact ⟨q2, q⟩)]
theorem countP_perm {l m : List Bs} (h : l.Perm m) (p : Bs → Bool) : l.countP p = m.countP p := h.countP_eq p
theorem fanL_sort (l : List Bs) : fanL (sortB l) = fanL l := by
  unfold fanL
  congr 1
  funext c
  exact countP_perm (sortB_perm l) _
theorem flat4_drop (l : List Nat) (X : Bs) (i : Nat) (hi : i < l.length) (hv : ∀ x ∈ l, x < 2 ^ 32) : numP ((l.flatMap fourP ++ X).drop (4 * i)) = l.getD i 0 := by
  have hl := flat4 l
  rw [List.drop_append, drop_flat fourP 4 l i (fun _ _ => rfl), drop_getD 0 hi, List.flatMap_cons, List.append_assoc]
  exact numP_fourP _ (hv _ (getD_mem 0 hi)) _
theorem open_build (hL : LightP ps) (h : bgo ps ps.length = .ok s) : openP (buildP ps).1 = .ok (sortB s.ids, objB ps s) := by
  obtain ⟨es, I⟩ := bgo_inv hL ps.length s (Nat.le_refl _) h
  have h60 := hL.1
  have hB := I.ok.b
  have hbl := behindB_len I.ok s.b.length
  have hsl : ∀ x, (Sha.sum x).length = 32 := Sha.sum_length
  have e1 : (buildP ps).1 = s.b ++ behindB s s.b.length ++ Sha.sum (s.b ++ behindB s s.b.length) := by unfold buildP; rw [h]
  have hlen : (buildP ps).1.length = s.b.length + (1028 + 36 * ps.length) + 32 := by rw [e1, List.length_append, List.length_append, hbl, hsl]
  have hbeh : behindB s s.b.length = (fanL s.ids).flatMap fourP ++ rowsB s ++ fourP s.b.length := rfl
  have hfan : ((fanL s.ids).flatMap fourP).length = 1024 := by rw [flat4, fanL_len]
  have hrows : (rowsB s).length = 36 * ps.length := by
    have := flat36 (fun id => (placesG s id).getD 0) (sortB s.ids) (fun x hx => I.ok.len x (mem_sort.1 hx))
    rw [I.sortlen] at this
    exact this
  have huv := uv3 (n := ps.length) (by omega)
  generalize hC : (buildP ps).1 = c at e1 hlen ⊢
  unfold openP
  rw [if_neg (by omega), if_neg (by omega), if_pos (by
    rw [e1, List.length_append, hsl, Nat.add_sub_cancel, List.take_left, List.drop_left])]
  -- the head
  obtain ⟨r, hr⟩ : ∃ r, s.b = 80 :: Lib.uvarint ps.length ++ r := by
    have : ∀ i t, bgo ps i = .ok t → ∃ r, t.b = 80 :: Lib.uvarint ps.length ++ r := by
      intro i
      induction i with
      | zero => intro t ht; cases ht; exact ⟨[], by simp⟩
      | succ i ih =>
        intro t ht
        cases hb : bgo ps i with
        | error e => rw [bgo_err hb 1] at ht; cases ht
        | ok t0 =>
          obtain ⟨r, hr⟩ := ih t0 hb
          rw [bgo_step hb] at ht
          unfold pstep at ht
          split at ht
          · cases ht
          · split at ht
            · cases ht
            · split at ht
              · cases ht
              · cases ht
                exact ⟨r ++ chunkB ps i t0, by rw [bnext_b, hr, List.append_assoc]⟩
    exact this _ _ h
  have hd1 : c.drop 1 = Lib.uvarint ps.length ++ (r ++ behindB s s.b.length ++ Sha.sum (s.b ++ behindB s s.b.length)) := by
    rw [e1, hr]
    simp only [List.cons_append, List.append_assoc, List.drop_succ_cons, List.drop_zero]
  have h80 : c.getD 0 0 = 80 := by rw [e1, hr]; rfl
  have hat : numP (c.drop (c.length - 36)) = s.b.length := by
    have e2 : c = (s.b ++ (fanL s.ids).flatMap fourP ++ rowsB s) ++ (fourP s.b.length ++ Sha.sum (s.b ++ behindB s s.b.length)) := by rw [e1, hbeh]; simp only [List.append_assoc]
    have e3 : c.length - 36 = (s.b ++ (fanL s.ids).flatMap fourP ++ rowsB s).length := by rw [hlen]; simp only [List.length_append, hfan, hrows]; omega
    rw [e3, e2, List.drop_left]
    exact numP_fourP _ (by omega) _
  have hfirst : 1 + (Lib.uvarint ps.length).length ≤ s.b.length := by rw [hr]; simp only [List.cons_append, List.length_cons, List.length_append]; omega
  have hent : entriesP c ps.length (1 + (Lib.uvarint ps.length).length) s.b.length = some es := by
    unfold entriesP
    rw [e1, List.append_assoc, I.ent _ _ (Nat.le_refl _)]
    show (if s.b.length = s.b.length then some es else none) = _
    rw [if_pos rfl]
  obtain ⟨S, g1, g2, g3, g4⟩ := I.index hL (Nat.le_refl _) ps.length (Nat.le_refl _)
  have htake : (sortB s.ids).take ps.length = sortB s.ids := List.take_of_length_le (by rw [I.sortlen]; exact Nat.le_refl _)
  rw [htake] at g2 g4
  have hM : S.M = entG s es := by
    funext id
    rw [g4]
    split
    · rfl
    · rename_i q
      exact (I.miss (fun q2 => q (mem_sort.2 q2))).symm
  have hE : entOf S.M = entE s es := by rw [hM]; rfl
  obtain ⟨o, o1, o2, o3⟩ := I.objs hL rfl ps.length (Nat.le_refl _)
  have hO : o.O = objB ps s := by
    funext id
    rw [o3, htake]
    split
    · rfl
    · rename_i q
      exact (lookup_zip_none _ _ _ (fun q2 => q (mem_sort.2 q2))).symm
  have ht : (c.drop (s.b.length + 1024)).take (c.length - 36 - (s.b.length + 1024)) = rowsB s := by
    have e2 : c = (s.b ++ (fanL s.ids).flatMap fourP) ++ (rowsB s ++ (fourP s.b.length ++ Sha.sum (s.b ++ behindB s s.b.length))) := by rw [e1, hbeh]; simp only [List.append_assoc]
    have e3 : s.b.length + 1024 = (s.b ++ (fanL s.ids).flatMap fourP).length := by rw [List.length_append, hfan]
    rw [e2, e3, List.drop_left, show ∀ a : Nat, a - (s.b ++ (fanL s.ids).flatMap fourP).length = a - (s.b.length + 1024) from fun a => by rw [e3], ← e2, hlen, show s.b.length + (1028 + 36 * ps.length) + 32 - 36 - (s.b.length + 1024) = (rowsB s).length by rw [hrows]; omega, List.take_left]
  unfold readP
  rw [hd1, lebDec_uv _ (by omega)]
  dsimp only
  rw [hat]
  unfold readA
  rw [if_pos ⟨h80, hfirst, by omega, by omega⟩, if_pos (by omega)]
  unfold readB
  rw [hent]
  show readC c s.b.length es = _
  unfold readC
  rw [ht, I.len, g1]
  show readD c s.b.length es S = _
  unfold readD
  rw [if_pos (fanB_of fun i hi => by
    rw [g2, fanL_sort, e1, hbeh]
    have e2 : s.b ++ ((fanL s.ids).flatMap fourP ++ rowsB s ++ fourP s.b.length) ++ Sha.sum (s.b ++ ((fanL s.ids).flatMap fourP ++ rowsB s ++ fourP s.b.length)) = s.b ++ ((fanL s.ids).flatMap fourP ++ (rowsB s ++ (fourP s.b.length ++ Sha.sum (s.b ++ ((fanL s.ids).flatMap fourP ++ rowsB s ++ fourP s.b.length))))) := by simp only [List.append_assoc]
    rw [e2, drop_app]
    refine flat4_drop _ _ i (by rw [fanL_len]; exact hi) fun x hx => ?_
    obtain ⟨k, hk, rfl⟩ := List.getElem_of_mem hx
    have := fanL_le s.ids k
    rw [List.getD_eq_getElem?_getD, List.getElem?_eq_getElem hk, I.ok.ids] at this
    have : (fanL s.ids)[k] ≤ ps.length := this
    omega), if_pos (by
    refine List.all_eq_true.2 fun e he => ?_
    obtain ⟨j, hj, rfl⟩ := List.getElem_of_mem he
    rw [I.len] at hj
    have ej : es[j] = es.getD j dEnt.1 := by rw [List.getD_eq_getElem?_getD, List.getElem?_eq_getElem]; rfl
    rw [ej, hM]
    by_cases hb : (ps.getD j dPt).base < 0
    · rw [(I.flat j hj hb).1]; rfl
    · obtain ⟨k1, k2, k3, -⟩ := I.upon j hj hb
      rw [k2, k3, I.at_ (by omega)]
      rfl)]
  rw [hE, g2, readE_ok (o := o) (by rw [I.sortlen]; exact o1), hO]
end
open Go.RowKit
section
variable {P : Program} {K : Value → World → Prop} {ρ : Slots} {w : World} {d : Option Tmp} {ty : TypeId} {pos : String} {af : Array Edge} {gd : Option (Nat × Bool)}
theorem run_slNil {t e : TypeId} (ht : P.underlying t = some (.slice e)) (a : Option Addr) (n c : Nat) (w : World) : (Op.equal t (.slice a n c) (.slice none 0 0)).run P w = .ok a.isNone w := by
  unfold Op.equal
  rw [show Op.maxDepth = (Op.maxDepth - 1) + 1 from rfl]
  cases a <;> simp [Op.equalIn, run_underlying ht, Sem.run_bind, Sem.run_pure]
theorem Yk.eqlNilSl {t e ty2 : TypeId} (ht : P.underlying t = some (.slice e)) {x : Operand} {a : Option Addr} {n c : Nat} (hx : evalR ρ x = .slice a n c) (hk : K (.bool a.isNone) w) : Yk P K ((execOp (evalR ρ) ⟨d, .binOp .eql t x (.const (.slice none 0 0)) ty2, ty, pos, af, gd⟩).run P w) := by
  have hy : evalR ρ (.const (.slice none 0 0)) = .slice none 0 0 := rfl
  refine Yk.value (v := .bool a.isNone) (w' := w) ?_ hk
  have hr := run_slNil ht a n c w
  unfold execOp
  simp only [hx, hy]
  cases a <;> simp [eqGuard, Go.binOp, hr]
end
open Go.RowKit
set_option maxRecDepth 100000
def PackO (w : World) (v : Value) : Option PackV → Prop
 | none => v = .pointer none
 | some p => PackAt w v p
theorem PackO.keep {w w' : World} {v : Value} : ∀ {q : Option PackV}, PackO w v q → Ext w w' → PackO w' v q
 | none, h, _ => h
 | some _, h, k => PackAt.keep h k
def idsQ (q : Option PackV) : List Bs := match q with | none => [] | some p => p.1
def lenQ (q : Option PackV) : Nat := (idsQ q).length
def getQ (q : Option PackV) (id : Bs) : (Bs × Nat) × Nat :=
 match q with
 | none => (([], 0), 1)
 | some p => match p.2 id with
  | none => (([], 0), 12)
  | some x => (x, 0)
theorem pk23_ty24 : Tryd.prog.underlying 24 = some (.slice 5) := by kernel_rfl
theorem pk23_l0_24 (w : World) : (Instr.buildSlice 24 0 #[]).run Tryd.prog w = .ok (.slice (some ⟨w.heap.size, 0, none⟩) 0 0) (w.alloc (.cells #[] 5)) := by kernel_rfl
theorem pk23_inf5 : (Tryd.prog.info? 5).map (fun i => (i.zero, i.size, i.bytes)) = some (some (.int .u8 0), 1, 1) := by kernel_rfl
theorem pk23_ty47 : Tryd.prog.underlying 47 = some (.slice 38) := by kernel_rfl
theorem pk23_l0_47 (w : World) : (Instr.buildSlice 47 0 #[]).run Tryd.prog w = .ok (.slice (some ⟨w.heap.size, 0, none⟩) 0 0) (w.alloc (.cells #[] 38)) := by kernel_rfl
theorem pk23_ig38 : ∃ z, (Tryd.prog.info? 38).map (fun i => (i.zero, i.size, i.bytes)) = some (some z, 32, 32) ∧ z.cells.size = 32 := info_ex (by kernel_rfl)
theorem pk23_ty33 : Tryd.prog.underlying 33 = some (.pointer 74) := by kernel_rfl
theorem pk23_fo74_0 : FieldOff Tryd.prog 74 0 0 := fun b o w => by simp [go_sem]
theorem pk23_pl48 : Plain Tryd.prog 48 := fun _ _ => by kernel_rfl
theorem pk23_isz81 : (Tryd.prog.info? 81).map (·.size) = some 2 := by kernel_rfl
theorem pk23_al81 {d : Option Tmp} {ty : TypeId} {pos : String} {af : Array Edge} {gd : Option (Nat × Bool)} (σ : Operand → Value) (w : World) : (execOp σ ⟨d, .alloc 81, ty, pos, af, gd⟩).run Tryd.prog w = .ok (.value (PQ w.heap.size 0)) (w.alloc (.cells ([(Value.slice none 0 0), NI 0]).toArray 81)) := by kernel_rfl
theorem pk23_ty81 : ∃ fs, Tryd.prog.underlying 81 = some (.struct fs) := struct_of (by kernel_rfl)
theorem pk23_fo74_1 : FieldOff Tryd.prog 74 1 1 := fun b o w => by simp [go_sem]
theorem pk23_ty72 : Tryd.prog.underlying 72 = some (.map 38 81) := by kernel_rfl
theorem pk23_ty38 : Tryd.prog.underlying 38 = some (.array 32 5) := by kernel_rfl
theorem pk23_pl41 : Plain Tryd.prog 41 := fun _ _ => by kernel_rfl
theorem pk23_fo81_1 : FieldOff Tryd.prog 81 1 1 := fun b o w => by simp [go_sem]
theorem pk23_ty3 : Tryd.prog.underlying 3 = some (.int .i64) := by kernel_rfl
theorem pk23_fo81_0 : FieldOff Tryd.prog 81 0 0 := fun b o w => by simp [go_sem]
theorem pk23_pl42 : Plain Tryd.prog 42 := fun _ _ => by kernel_rfl
set_option maxHeartbeats 1600000
theorem cloneN (w : World) :
  Calls Tryd.prog 42 #[(.slice none 0 0)] w fun e w' => ∃ v', e = .returned v' ∧ NewB 5 w w' v' [] := by
 refine gG (args := [(.slice none 0 0)]) Tryd.func42 rfl 8 rfl rfl ?_
 have hE := Ext.refl w
 refine gS (Yk.eqlNilSl pk23_ty24 rfl (cT rfl (rt1 rfl (vr (Value.slice none 0 0) rfl) ?_)))
 exact ⟨_, rfl, ⟨World.ownsRow_nil _ _ _ 1, hE.grown⟩⟩

theorem cloneS (w : World) (a : Addr) (c : Nat) (l : Bs) (hr : RB w (.slice (some a) l.length c) l) (hl : l.length < 1099511627776) :
  Calls Tryd.prog 42 #[(.slice (some a) l.length c)] w fun e w' => ∃ v', e = .returned v' ∧ NewB 5 w w' v' l := by
 refine gG (args := [(.slice (some a) l.length c)]) Tryd.func42 rfl 8 rfl rfl ?_
 have hE := Ext.refl w
 refine gS (Yk.eqlNilSl pk23_ty24 rfl (cF rfl (gS (Yk.lit0 pk23_l0_24 fun v5 w6 hN7 => ?_))))
 have ho8 := hN7.own
 have hE := hE.trans hN7.ext
 refine gS (Yk.appendRB _ _ w.heap.size (.int .u8 0) pk23_ty24 pk23_inf5 rfl pk23_ty24 (([] : List UInt8)) (l) (own_of ho8 (vr v5 rfl)) (RB.of (hr.keep hE) (vr (.slice (some a) l.length c) rfl)) (by simp only [List.length_nil]; omega) hE.size fun v9 w10 ho11 hg12 => ?_)
 have hg12 : Grew w6 w10 v5 v9 := hg12
 have hE := ext_grew hE hg12 ho8 (Nat.le_refl _)
 clear ho8
 refine rt1 rfl (vr v9 rfl) ?_
 exact ⟨_, rfl, ⟨(show World.ownsRow _ _ _ _ _ _ _ from by simpa using ho11), hE.grown⟩⟩

theorem clone_any (w : World) (v : Value) (l : Bs) (h : RB w v l) (hl : l.length < 1099511627776) :
  Calls Tryd.prog 42 #[v] w fun e w' => ∃ v', e = .returned v' ∧ NewB 5 w w' v' l := by
 obtain ⟨h1, ao, cap, rfl, h2, h3, h4, h5⟩ := id h
 cases ao with
 | none =>
  have hl := h4 rfl
  have : l = [] := List.eq_nil_of_length_eq_zero hl.1
  subst this
  rw [show cap = 0 from hl.2]
  exact cloneN w
 | some a => exact cloneS w a cap l h hl

theorem cloneIdN (w : World) :
  Calls Tryd.prog 48 #[(.slice none 0 0)] w fun e w' => ∃ v', e = .returned v' ∧ OG w.heap.size 38 32 Lib.byteCells w' v' [] ∧ Ext w w' := by
 refine gG (args := [(.slice none 0 0)]) Tryd.func48 rfl 8 rfl rfl ?_
 have hE := Ext.refl w
 refine gS (Yk.eqlNilSl pk23_ty47 rfl (cT rfl (rt1 rfl (vr (Value.slice none 0 0) rfl) ?_)))
 exact ⟨_, rfl, OG.nil _ _ _ _ _, hE⟩

theorem cloneIdS (w : World) (a : Addr) (c : Nat) (l : List Bs) (hr : RG 32 Lib.byteCells w (.slice (some a) l.length c) l) (hl : l.length < 1099511627776) :
  Calls Tryd.prog 48 #[(.slice (some a) l.length c)] w fun e w' => ∃ v', e = .returned v' ∧ OG w.heap.size 38 32 Lib.byteCells w' v' l ∧ Ext w w' := by
 refine gG (args := [(.slice (some a) l.length c)]) Tryd.func48 rfl 8 rfl rfl ?_
 have hE := Ext.refl w
 refine gS (Yk.eqlNilSl pk23_ty47 rfl (cF rfl (gS (Yk.lit0G (k := 32) (enc := Lib.byteCells) pk23_l0_47 fun v5 w6 ho7 hx8 => ?_))))
 have hE := hE.trans hx8
 refine gS (Yk.appendRG _ _ w.heap.size _ 32 pk23_ty47 pk23_ig38.choose_spec.1 pk23_ig38.choose_spec.2 pk23_ty47 ([]) (l) (OG.of ho7 (vr v5 rfl)) (RG.of (hr.keep hE) (vr (.slice (some a) l.length c) rfl)) (fun _ _ => byteCells_one _) (by simp only [List.length_nil]; omega) (by simp only [List.length_nil]; omega) hE.size fun v9 w10 ho11 hg12 => ?_)
 have hg12 : Grew w6 w10 v5 v9 := hg12
 have hE := ext_grew hE hg12 ho7.2 (Nat.le_refl _)
 clear ho7
 refine rt1 rfl (vr v9 rfl) ?_
 exact ⟨_, rfl, (show OG _ _ _ _ _ _ _ from by simpa using ho11), hE⟩

theorem cloneId_any (w : World) (v : Value) (l : List Bs) (h : RG 32 Lib.byteCells w v l) (hl : l.length < 1099511627776) :
  Calls Tryd.prog 48 #[v] w fun e w' => ∃ v', e = .returned v' ∧ OG w.heap.size 38 32 Lib.byteCells w' v' l ∧ Ext w w' := by
 obtain ⟨h0, h1, ao, cap, rfl, h2, h3, h4, h5⟩ := id h
 cases ao with
 | none =>
  have hl := h4 rfl
  have : l = [] := List.eq_nil_of_length_eq_zero hl.1
  subst this
  rw [show cap = 0 from hl.2]
  exact cloneIdN w
 | some a => exact cloneIdS w a cap l h hl

theorem plen_nil (w : World)  :
  Calls Tryd.prog 16 #[.pointer none] w fun e w' => e = .returned (NI (lenQ (none : Option PackV))) ∧ Ext w w' := by
 refine gG (args := [.pointer none]) Tryd.func16 rfl 10 rfl rfl ?_
 have hE := Ext.refl w
 refine gS (Yk.eqlNil pk23_ty33 rfl (cT rfl (rt1 rfl (vr (NI 0) rfl) ?_)))
 exact ⟨rfl, hE⟩

theorem plen_at (w : World) (g bo : Nat) (vi : Value) (ids : List Bs) (O : Bs → Option ObjV) (hg : w.heap[g]? = some (.cells ([vi, .map (some bo)]).toArray 74 (0, 0))) (hrg : RG 32 Lib.byteCells w vi ids) (hmo : MapF rk objV (fun id : List UInt8 => id.length = 32) w bo O) (hoo : OOk w O) :
  Calls Tryd.prog 16 #[PQ g 0] w fun e w' => e = .returned (NI (lenQ (some (ids, fun k => (O k).map Prod.fst)))) ∧ Ext w w' := by
 refine gG (args := [PQ g 0]) Tryd.func16 rfl 10 rfl rfl ?_
 have hE := Ext.refl w
 refine gS (Yk.eqlNil pk23_ty33 rfl (cF rfl (gS (Yk.nilCheck rfl (gS (Yk.fieldAt pk23_fo74_0 rfl (gS (Yk.cell1 pk23_ty47 rfl rfl (cellAt hg rfl) (gS (Yk.lenRG pk23_ty47 (RG.of hrg rfl) (rt1 rfl (vr (NI ids.length) rfl) ?_)))))))))))
 exact ⟨rfl, hE⟩

theorem plen_any (w : World) (v : Value) (q : Option PackV) (h : PackO w v q) :
  Calls Tryd.prog 16 #[v] w fun e w' => e = .returned (NI (lenQ q)) ∧ Ext w w' := by
 match q, h with
 | none, h => rw [show v = .pointer none from h]; exact plen_nil w
 | some p, h =>
  obtain ⟨g, vi, bo, O, rfl, h2, hg, hrg, hmo, hoo⟩ := h
  obtain ⟨ids, P⟩ := p
  subst h2
  exact plen_at w g bo vi ids O hg hrg hmo hoo

theorem pids_nil (w : World)  :
  Calls Tryd.prog 22 #[.pointer none] w fun e w' => ∃ v', e = .returned v' ∧ OG w.heap.size 38 32 Lib.byteCells w' v' (idsQ (none : Option PackV)) ∧ Ext w w' := by
 refine gG (args := [.pointer none]) Tryd.func22 rfl 10 rfl rfl ?_
 have hE := Ext.refl w
 refine gS (Yk.eqlNil pk23_ty33 rfl (cT rfl (rt1 rfl (vr (Value.slice none 0 0) rfl) ?_)))
 exact ⟨_, rfl, OG.nil _ _ _ _ _, hE⟩

theorem pids_at (w : World) (g bo : Nat) (vi : Value) (ids : List Bs) (O : Bs → Option ObjV) (hg : w.heap[g]? = some (.cells ([vi, .map (some bo)]).toArray 74 (0, 0))) (hrg : RG 32 Lib.byteCells w vi ids) (hmo : MapF rk objV (fun id : List UInt8 => id.length = 32) w bo O) (hoo : OOk w O) (hi : ids.length < 1099511627776) :
  Calls Tryd.prog 22 #[PQ g 0] w fun e w' => ∃ v', e = .returned v' ∧ OG w.heap.size 38 32 Lib.byteCells w' v' (idsQ (some (ids, fun k => (O k).map Prod.fst))) ∧ Ext w w' := by
 refine gG (args := [PQ g 0]) Tryd.func22 rfl 10 rfl rfl ?_
 have hE := Ext.refl w
 refine gS (Yk.eqlNil pk23_ty33 rfl (cF rfl (gS (Yk.nilCheck rfl (gS (Yk.fieldAt pk23_fo74_0 rfl (gS (Yk.cell1 pk23_ty47 rfl rfl (cellAt hg rfl) (gS (Yk.callA1 pk23_pl48 rfl ((cloneId_any _ vi ids hrg (by omega)).mono ?_)))))))))))
 rintro e w8 ⟨v5, rfl, ho6, hx7⟩
 refine ⟨_, rfl, ?_⟩
 refine rt1 rfl (vr v5 rfl) ?_
 have hE := hE.trans hx7
 exact ⟨_, rfl, ho6, hE⟩

theorem pids_any (w : World) (v : Value) (q : Option PackV) (h : PackO w v q) (hi : lenQ q < 1099511627776) :
  Calls Tryd.prog 22 #[v] w fun e w' => ∃ v', e = .returned v' ∧ OG w.heap.size 38 32 Lib.byteCells w' v' (idsQ q) ∧ Ext w w' := by
 match q, h with
 | none, h => rw [show v = .pointer none from h]; exact pids_nil w
 | some p, h =>
  obtain ⟨g, vi, bo, O, rfl, h2, hg, hrg, hmo, hoo⟩ := h
  obtain ⟨ids, P⟩ := p
  subst h2
  exact pids_at w g bo vi ids O hg hrg hmo hoo hi

theorem pget0_nil (w : World)  (id : Bs) (hid : id.length = 32) :
  Calls Tryd.prog 41 #[.pointer none, AB id] w fun e w' => ∃ x, e = .returned x ∧ ∃ (o : Bs × Nat) (s : Value), x = .tuple #[.agg ([s, NI o.2]).toArray, NI (getQ (none : Option PackV) id).2] ∧ o = (getQ (none : Option PackV) id).1 ∧ RB w' s o.1 ∧ Ext w w' := by
 refine gG (args := [.pointer none, AB id]) Tryd.func41 rfl 24 rfl rfl ?_
 have hE := Ext.refl w
 refine gS (Yk.box (vr (AB id) rfl) fun n2 w3 hn4 hb5 hx6 hs7 => ?_)
 have hb8 := hb5; clear hb5
 have hl9 : n2 < w3.heap.size := by omega
 refine gS (Yk.alloc pk23_al81 fun n10 w11 hn12 hb13 hx14 hs15 => ?_)
 have hE := hE.trans hx6
 have hz18 := hE.size
 have hb20 := hb13; clear hb13
 have hl21 : n10 < w11.heap.size := by omega
 refine gS (Yk.eqlNil pk23_ty33 rfl (cT rfl (gS (Yk.run (v := .agg ([(Value.slice none 0 0), NI 0]).toArray) (by kernel_rfl) (gS (Yk.storeAll (vr (PQ n10 0) rfl) (vr (.agg ([(Value.slice none 0 0), NI 0]).toArray) rfl) hb20 rfl (show (Tryd.prog.info? 81).map (·.size) = some 2 from pk23_isz81) (obj_one rfl) fun w25 hb26 hg27 hs28 => ?_))))))
 clear hb20
 have hb20 := hb26; clear hb26
 have hl29 := bl hb20
 refine rg2 rfl (ResF.row rfl hb20 (pk23_ty81).choose_spec rfl ((show (Tryd.prog.info? 81).map (·.size) = some 2 from pk23_isz81))) (vr (NI 1) rfl) ?_
 have hE := hE.trans hx14
 have hE := row_fresh hE hg27 (Nat.le_trans hz18 (by omega))
 exact ⟨_, rfl, ([], 0), _, rfl, rfl, RB.nil _, hE⟩

theorem pget0_at (w : World) (g bo : Nat) (vi : Value) (ids : List Bs) (O : Bs → Option ObjV) (hg : w.heap[g]? = some (.cells ([vi, .map (some bo)]).toArray 74 (0, 0))) (hrg : RG 32 Lib.byteCells w vi ids) (hmo : MapF rk objV (fun id : List UInt8 => id.length = 32) w bo O) (hoo : OOk w O) (id : Bs) (hid : id.length = 32) :
  Calls Tryd.prog 41 #[PQ g 0, AB id] w fun e w' => ∃ x, e = .returned x ∧ ∃ (o : Bs × Nat) (s : Value), x = .tuple #[.agg ([s, NI o.2]).toArray, NI (getQ (some (ids, fun k => (O k).map Prod.fst)) id).2] ∧ o = (getQ (some (ids, fun k => (O k).map Prod.fst)) id).1 ∧ RB w' s o.1 ∧ Ext w w' := by
 refine gG (args := [PQ g 0, AB id]) Tryd.func41 rfl 24 rfl rfl ?_
 have hE := Ext.refl w
 refine gS (Yk.box (vr (AB id) rfl) fun n2 w3 hn4 hb5 hx6 hs7 => ?_)
 have hlt9 := lte hmo.lt hn4
 have hb10 := hb5; clear hb5
 have hl11 : n2 < w3.heap.size := by omega
 refine gS (Yk.alloc pk23_al81 fun n12 w13 hn14 hb15 hx16 hs17 => ?_)
 have hE := hE.trans hx6
 have hz20 := hE.size
 have hmo := hmo.keep hx6
 have hlt22 := lte hmo.lt hn14
 have hb24 := hb15; clear hb15
 have hl25 : n12 < w13.heap.size := by omega
 refine gS (Yk.eqlNil pk23_ty33 rfl ?_)
 rcases hO : O id with _ | x
 ·have hQ : getQ (some (ids, fun k => (O k).map Prod.fst)) id = (([], 0), 12) := by show (match (O id).map Prod.fst with | none => _ | some x => _) = _; rw [hO]; rfl
  refine cF rfl (gM1 [0, 1, 2, 3, 4, 5, 6, 7, 8, 9, 10, 11] [9, 10] [1, 2, 7, 8] [3, 4, 5] fun w29 hx30 => ?_)
  have hA31 := Ext.refl w29
  have hZ1 := hx16.trans hx30
  have hE := hE.trans hZ1
  have hz34 := hE.size
  have hA36 := Ext.refl w29
  have hlt8 := lte (bl hg) hn4
  have hg := eb hx6 hg
  have hlt21 := lte (bl hg) hn14
  have hg := eb hZ1 hg
  have hlt23 := lte (bl hb10) hn14
  have hb10 := eb hZ1 hb10
  have hmo := hmo.keep hZ1
  refine meb0 hA36 ?_
  refine yp (Yk.nilCheck rfl zz) (yp (Yk.fieldAt pk23_fo74_1 rfl zz) (yf (fun _ ⟨hZ, _⟩ => Yk.cell1 pk23_ty72 rfl rfl (cellAt (eb hZ hg) rfl) zz) (yf (fun _ ⟨hZ, _⟩ => Yk.loadAll rfl (eb hZ hb10) pk23_ty38 rfl (by exact sizeId_of hid) zz) (yf (fun _ ⟨hZ, _⟩ => Yk.lookOkN (ek := rk) (ev := objV) (D := (fun id : List UInt8 => id.length = 32)) idLaw id_ok (fun _ _ => rk_inj) pk23_ty72 (z := objV dObj) zeroObj rfl rfl (hmo.keep hZ) hid hO zz) (yp (Yk.extract (vs := [.agg ([(Value.slice none 0 0), NI 0]).toArray, .bool (false)]) rfl rfl zz) (yp (Yk.extract (vs := [.agg ([(Value.slice none 0 0), NI 0]).toArray, .bool (false)]) rfl rfl zz) (yE (Yk.alloc pk23_al81 fun n37 w38 hn39 hb40 hx41 hs42 => ?_))))))))
  have hlt44 := lte hmo.lt hn39
  have hb47 := hb40; clear hb40
  have hl48 : n37 < w38.heap.size := by omega
  have hA36 := hA36.trans hx41
  refine ⟨hA36, ?_⟩
  refine yD rfl (Yk.storeAll (vr (PQ n37 0) rfl) (vr (.agg ([(Value.slice none 0 0), NI 0]).toArray) rfl) hb47 rfl (show (Tryd.prog.info? 81).map (·.size) = some 2 from pk23_isz81) (obj_one rfl) fun w50 hb51 hg52 hs53 => ?_)
  have hmo := hmo.keep hx41
  have hmo := MapF.other hmo hg52 (some_ne (by omega))
  clear hb47
  have hb47 := hb51; clear hb51
  have hl54 := bl hb47
  have hA31 := hA31.trans hx41
  have hA31 := row_fresh hA31 hg52 (Nat.le_trans (Nat.le_refl _) (by omega))
  have hb24 := eb (hx30.trans hA31) hb24
  refine gS (Yk.notB rfl (cT rfl (gS (Yk.run (v := .agg ([(Value.slice none 0 0), NI 0]).toArray) (by kernel_rfl) (gS (Yk.storeAll (vr (PQ n12 0) rfl) (vr (.agg ([(Value.slice none 0 0), NI 0]).toArray) rfl) hb24 rfl (show (Tryd.prog.info? 81).map (·.size) = some 2 from pk23_isz81) (obj_one rfl) fun w58 hb59 hg60 hs61 => ?_))))))
  have hmo := MapF.other hmo hg60 (some_ne (by omega))
  clear hb24
  have hb24 := hb59; clear hb59
  have hl62 := bl hb24
  refine rg2 rfl (ResF.row rfl hb24 (pk23_ty81).choose_spec rfl ((show (Tryd.prog.info? 81).map (·.size) = some 2 from pk23_isz81))) (vr (NI 12) rfl) ?_
  have hE := hE.trans hx41
  have hE := row_fresh hE hg52 (Nat.le_trans hz34 (by omega))
  have hE := row_fresh hE hg60 (Nat.le_trans hz20 (by omega))
  exact ⟨_, rfl, ([], 0), _, by rw [hQ], by rw [hQ], RB.nil _, hE⟩
 have hQ : getQ (some (ids, fun k => (O k).map Prod.fst)) id = (x.1, 0) := by show (match (O id).map Prod.fst with | none => _ | some x => _) = _; rw [hO]; rfl
 have hxr := hoo id x hO
 refine cF rfl (gM1 [0, 1, 2, 3, 4, 5, 6, 7, 8, 9, 10, 11] [9, 10] [1, 2, 7, 8] [3, 4, 5] fun w64 hx65 => ?_)
 have hA66 := Ext.refl w64
 have hZ2 := hx16.trans hx65
 have hE := hE.trans hZ2
 have hz69 := hE.size
 have hA71 := Ext.refl w64
 have hlt8 := lte (bl hg) hn4
 have hg := eb hx6 hg
 have hlt21 := lte (bl hg) hn14
 have hg := eb hZ2 hg
 have hlt23 := lte (bl hb10) hn14
 have hb10 := eb hZ2 hb10
 have hmo := hmo.keep hZ2
 refine meb0 hA71 ?_
 refine yp (Yk.nilCheck rfl zz) (yp (Yk.fieldAt pk23_fo74_1 rfl zz) (yf (fun _ ⟨hZ, _⟩ => Yk.cell1 pk23_ty72 rfl rfl (cellAt (eb hZ hg) rfl) zz) (yf (fun _ ⟨hZ, _⟩ => Yk.loadAll rfl (eb hZ hb10) pk23_ty38 rfl (by exact sizeId_of hid) zz) (yf (fun _ ⟨hZ, _⟩ => Yk.lookOkS (ek := rk) (ev := objV) (D := (fun id : List UInt8 => id.length = 32)) idLaw id_ok (fun _ _ => rk_inj) pk23_ty72 (z := objV dObj) zeroObj rfl rfl (hmo.keep hZ) hid hO zz) (yp (Yk.extract (vs := [.agg ([x.2, NI x.1.2]).toArray, .bool (true)]) rfl rfl zz) (yp (Yk.extract (vs := [.agg ([x.2, NI x.1.2]).toArray, .bool (true)]) rfl rfl zz) (yE (Yk.alloc pk23_al81 fun n72 w73 hn74 hb75 hx76 hs77 => ?_))))))))
 have hlt79 := lte hmo.lt hn74
 have hb82 := hb75; clear hb75
 have hl83 : n72 < w73.heap.size := by omega
 have hA71 := hA71.trans hx76
 refine ⟨hA71, ?_⟩
 have hE := hE.trans hx76
 refine yD rfl (Yk.storeAll (vr (PQ n72 0) rfl) (vr (.agg ([x.2, NI x.1.2]).toArray) rfl) hb82 rfl (show (Tryd.prog.info? 81).map (·.size) = some 2 from pk23_isz81) (obj_one (RB.one (hxr.keep hE)).2) fun w85 hb86 hg87 hs88 => ?_)
 have hmo := hmo.keep hx76
 have hmo := MapF.other hmo hg87 (some_ne (by omega))
 clear hb82
 have hb82 := hb86; clear hb86
 have hl89 := bl hb82
 have hA66 := hA66.trans hx76
 have hA66 := row_fresh hA66 hg87 (Nat.le_trans (Nat.le_refl _) (by omega))
 have hb24 := eb (hx65.trans hA66) hb24
 have hE := row_fresh hE hg87 (Nat.le_trans hz69 (by omega))
 refine gS (Yk.notB rfl (cF rfl (gS (Yk.loadAll rfl hb82 (pk23_ty81).choose_spec rfl (show (Tryd.prog.info? 81).map (·.size) = some 2 from pk23_isz81) (gS (Yk.storeAll (vr (PQ n12 0) rfl) (vr (.agg ([x.2, NI x.1.2]).toArray) rfl) hb24 rfl (show (Tryd.prog.info? 81).map (·.size) = some 2 from pk23_isz81) (obj_one (RB.one (hxr.keep hE)).2) fun w93 hb94 hg95 hs96 => ?_))))))
 have hmo := MapF.other hmo hg95 (some_ne (by omega))
 clear hb24
 have hb24 := hb94; clear hb94
 have hl97 := bl hb24
 refine rg2 rfl (ResF.row rfl hb24 (pk23_ty81).choose_spec rfl ((show (Tryd.prog.info? 81).map (·.size) = some 2 from pk23_isz81))) (vr (NI 0) rfl) ?_
 have hE := row_fresh hE hg95 (Nat.le_trans hz20 (by omega))
 exact ⟨_, rfl, x.1, x.2, by rw [hQ], by rw [hQ], (hxr.keep hE), hE⟩

theorem pget0_any (w : World) (v : Value) (q : Option PackV) (h : PackO w v q) (id : Bs) (hid : id.length = 32) :
  Calls Tryd.prog 41 #[v, AB id] w fun e w' => ∃ x, e = .returned x ∧ ∃ (o : Bs × Nat) (s : Value), x = .tuple #[.agg ([s, NI o.2]).toArray, NI (getQ q id).2] ∧ o = (getQ q id).1 ∧ RB w' s o.1 ∧ Ext w w' := by
 match q, h with
 | none, h => rw [show v = .pointer none from h]; exact pget0_nil w id hid
 | some p, h =>
  obtain ⟨g, vi, bo, O, rfl, h2, hg, hrg, hmo, hoo⟩ := h
  obtain ⟨ids, P⟩ := p
  subst h2
  exact pget0_at w g bo vi ids O hg hrg hmo hoo id hid

theorem pdep_any (w : World) (v : Value) (q : Option PackV) (hq : PackO w v q) (id : Bs) (hid : id.length = 32) :
  Calls Tryd.prog 19 #[v, AB id] w fun e w' => e = .returned (.tuple #[NI (getQ q id).1.2, NI (getQ q id).2]) ∧ Ext w w' := by
 refine gG (args := [v, AB id]) Tryd.func19 rfl 17 rfl rfl ?_
 have hE := Ext.refl w
 refine gS (Yk.box (vr (AB id) rfl) fun n2 w3 hn4 hb5 hx6 hs7 => ?_)
 have hb8 := hb5; clear hb5
 have hl9 : n2 < w3.heap.size := by omega
 have hE := hE.trans hx6
 refine gS (Yk.loadAll rfl hb8 pk23_ty38 rfl (by exact sizeId_of hid) (gS (Yk.callA2 pk23_pl41 rfl rfl ((pget0_any _ v q (hq.keep hE) id hid).mono ?_))))
 rintro e w14 ⟨_, rfl, o, v11, rfl, ho, hr12, hx13⟩
 refine ⟨_, rfl, ?_⟩
 subst ho
 refine gS (Yk.extract (vs := [.agg ([v11, NI ((getQ q id).1.2)]).toArray, NI ((getQ q id).2)]) rfl rfl (gS (Yk.extract (vs := [.agg ([v11, NI ((getQ q id).1.2)]).toArray, NI ((getQ q id).2)]) rfl rfl (gS (Yk.alloc pk23_al81 fun n15 w16 hn17 hb18 hx19 hs20 => ?_)))))
 have hA21 := Ext.refl w14
 have hE := hE.trans hx13
 have hz23 := hE.size
 have hb25 := hb18; clear hb18
 have hl26 : n15 < w16.heap.size := by omega
 have hA21 := hA21.trans hx19
 refine gS (Yk.storeAll (vr (PQ n15 0) rfl) (vr (.agg ([v11, NI ((getQ q id).1.2)]).toArray) rfl) hb25 rfl (show (Tryd.prog.info? 81).map (·.size) = some 2 from pk23_isz81) (obj_one (RB.one (hr12.keep hA21)).2) fun w27 hb28 hg29 hs30 => ?_)
 clear hb25
 have hb25 := hb28; clear hb28
 have hl31 := bl hb25
 refine gS (Yk.fieldAt pk23_fo81_1 rfl (gS (Yk.cell1 pk23_ty3 rfl rfl (cellAt hb25 rfl) (rt2 rfl (vr (NI ((getQ q id).1.2)) rfl) (vr (NI ((getQ q id).2)) rfl) ?_))))
 have hE := hE.trans hx19
 have hE := row_fresh hE hg29 (Nat.le_trans hz23 (by omega))
 exact ⟨rfl, hE⟩

theorem pget_any (w : World) (v : Value) (q : Option PackV) (hq : PackO w v q) (id : Bs) (hid : id.length = 32) (hb : (getQ q id).1.1.length < 1099511627776) :
  Calls Tryd.prog 18 #[v, AB id] w fun e w' => ∃ v', e = .returned (.tuple #[v', NI (getQ q id).2]) ∧ w'.ownsRow w.heap.size 5 1 v' (getQ q id).1.1.length (Lib.byteCells (getQ q id).1.1) ∧ Ext w w' := by
 refine gG (args := [v, AB id]) Tryd.func18 rfl 18 rfl rfl ?_
 have hE := Ext.refl w
 refine gS (Yk.box (vr (AB id) rfl) fun n2 w3 hn4 hb5 hx6 hs7 => ?_)
 have hb8 := hb5; clear hb5
 have hl9 : n2 < w3.heap.size := by omega
 have hE := hE.trans hx6
 refine gS (Yk.loadAll rfl hb8 pk23_ty38 rfl (by exact sizeId_of hid) (gS (Yk.callA2 pk23_pl41 rfl rfl ((pget0_any _ v q (hq.keep hE) id hid).mono ?_))))
 rintro e w14 ⟨_, rfl, o, v11, rfl, ho, hr12, hx13⟩
 refine ⟨_, rfl, ?_⟩
 subst ho
 refine gS (Yk.extract (vs := [.agg ([v11, NI ((getQ q id).1.2)]).toArray, NI ((getQ q id).2)]) rfl rfl (gS (Yk.extract (vs := [.agg ([v11, NI ((getQ q id).1.2)]).toArray, NI ((getQ q id).2)]) rfl rfl (gS (Yk.alloc pk23_al81 fun n15 w16 hn17 hb18 hx19 hs20 => ?_)))))
 have hA21 := Ext.refl w14
 have hE := hE.trans hx13
 have hz23 := hE.size
 have hb25 := hb18; clear hb18
 have hl26 : n15 < w16.heap.size := by omega
 have hA21 := hA21.trans hx19
 refine gS (Yk.storeAll (vr (PQ n15 0) rfl) (vr (.agg ([v11, NI ((getQ q id).1.2)]).toArray) rfl) hb25 rfl (show (Tryd.prog.info? 81).map (·.size) = some 2 from pk23_isz81) (obj_one (RB.one (hr12.keep hA21)).2) fun w27 hb28 hg29 hs30 => ?_)
 clear hb25
 have hb25 := hb28; clear hb28
 have hl31 := bl hb25
 have hA21 := row_fresh hA21 hg29 (Nat.le_trans (Nat.le_refl _) (by omega))
 refine gS (Yk.fieldAt pk23_fo81_0 rfl (gS (Yk.cell1 pk23_ty24 rfl rfl (cellAt hb25 rfl) (gS (Yk.callA1 pk23_pl42 rfl ((clone_any _ v11 (getQ q id).1.1 (hr12.keep hA21) (by omega)).mono ?_))))))
 rintro e w36 ⟨v33, rfl, hN34⟩
 refine ⟨_, rfl, ?_⟩
 have hE := hE.trans hx19
 have hE := row_fresh hE hg29 (Nat.le_trans hz23 (by omega))
 have hz40 := hE.size
 have hz41 := hA21.size
 have hb8 := eb (hx13.trans hA21) hb8
 have ho44 := hN34.own
 refine rt2 rfl (vr v33 rfl) (vr (NI ((getQ q id).2)) rfl) ?_
 have hE := hE.trans hN34.ext
 exact ⟨_, rfl, ownsRow_base ho44 (by omega), hE⟩
open Go.RowKit
section
variable {P : Program} {K : Value → World → Prop} {ρ : Slots} {w : World} {d : Option Tmp} {ty : TypeId} {pos : String} {af : Array Edge} {gd : Option (Nat × Bool)}
theorem RG.pair {α : Type} {k : Nat} {enc : α → List Value} {g : Nat} {e : TypeId} {fr : Nat × Nat} {a b : α} (ha : (enc a).length = k) (hb : (enc b).length = k) (h : w.heap[g]? = some (.cells ((enc a).toArray ++ (enc b).toArray) e fr)) : RG k enc w (.slice (some ⟨g, 0, none⟩) 2 2) [a, b] := by
  refine ⟨fun x hx => ?_, by simp [ha, hb]; omega, _, 2, rfl, Nat.le_refl _, by simp [maxLen], (fun h => by cases h), fun q hq j u hu => ?_⟩
  · simp only [List.mem_cons, List.not_mem_nil, or_false] at hx
    rcases hx with rfl | rfl
    · exact ha
    · exact hb
  · cases hq
    rw [Addr.add_lit, Nat.zero_add]
    exact cellAt (l := enc a ++ enc b) (t := e) (fr := fr) (by rw [h]; simp) (by simpa using hu)
theorem Yk.lit2G {α : Type} {k : Nat} {enc : α → List Value} {t e : TypeId} {x y : Operand} {a b : α} (hx : evalR ρ x = .agg (enc a).toArray) (hy : evalR ρ y = .agg (enc b).toArray) (ha : (enc a).length = k) (hb : (enc b).length = k)
    (hr : ∀ (cs cs' : Array Value), cs.size = k → cs'.size = k → ∀ w : World, (Instr.buildSlice t 2 #[(0, .agg cs), (1, .agg cs')]).run P w = .ok (.slice (some ⟨w.heap.size, 0, none⟩) 2 2) (w.alloc (.cells (cs ++ cs') e)))
    (hk : ∀ v w', RG k enc w' v [a, b] → Ext w w' → K v w') : Yk P K ((execOp (evalR ρ) ⟨d, .buildSlice t 2 #[(0, x), (1, y)], ty, pos, af, gd⟩).run P w) := by
  have hE : Ext w (w.alloc (.cells ((enc a).toArray ++ (enc b).toArray) e)) := (Below.refl _ _).alloc (Nat.le_refl _) _
  refine Yk.value (v := .slice (some ⟨w.heap.size, 0, none⟩) 2 2) (w' := w.alloc (.cells ((enc a).toArray ++ (enc b).toArray) e)) ?_ (hk _ _ (RG.pair ha hb (heap_alloc_new w _)) hE)
  unfold execOp
  simp only [List.map_toArray, List.map_cons, List.map_nil, hx, hy, Sem.run_bind, hr _ _ (show (enc a).toArray.size = k by rw [List.size_toArray]; exact ha) (show (enc b).toArray.size = k by rw [List.size_toArray]; exact hb), Result.andThen_ok, Sem.run_pure]
end
abbrev exA : Bs := [97, 98, 99, 100, 101, 102, 103, 104]
abbrev exB : Bs := [97, 98, 99, 100, 101, 102, 103, 104, 105]
theorem ex_sums : Sha.sum exB ≠ Sha.sum exA := by decide +kernel
def exPs (va vb : Value) : List Pt := [⟨va, exA, -1⟩, ⟨vb, exB, 0⟩]
theorem ex_light (va vb : Value) : LightP (exPs va vb) := ⟨by show 2 ≤ 60; omega, fun p hp => by
  simp only [exPs, List.mem_cons, List.not_mem_nil, or_false] at hp
  rcases hp with rfl | rfl <;> (simp only [List.length_cons, List.length_nil]; omega)⟩
theorem ex_go (va vb : Value) : ∃ s, bgo (exPs va vb) 2 = .ok s ∧ s.ids = [Sha.sum exA, Sha.sum exB] ∧ s.depths = [0, 1] := by
  let s0 : BS := ⟨80 :: Lib.uvarint 2, [], [], [], 0⟩
  let s1 : BS := bnext (exPs va vb) ⟨va, exA, -1⟩ s0
  have h0 : bgo (exPs va vb) 0 = .ok s0 := rfl
  have h1 : bgo (exPs va vb) 1 = .ok s1 := by
    rw [bgo_step h0]
    show (if (-1 : Int) < -1 ∨ ((0 : Nat) : Int) ≤ (-1 : Int) then _ else if Sha.sum exA ∈ ([] : List Bs) then _ else if 50 < depthB ⟨va, exA, -1⟩ s0 then _ else _) = _
    rw [if_neg (by omega), if_neg (by simp), if_neg (by show ¬ 50 < 0; omega)]
    rfl
  refine ⟨bnext (exPs va vb) ⟨vb, exB, 0⟩ s1, ?_, rfl, rfl⟩
  rw [bgo_step h1]
  show (if (0 : Int) < -1 ∨ ((1 : Nat) : Int) ≤ (0 : Int) then _ else if Sha.sum exB ∈ [Sha.sum exA] then _ else if 50 < depthB ⟨vb, exB, 0⟩ s1 then _ else _) = _
  rw [if_neg (by omega), if_neg (by rw [List.mem_singleton]; exact ex_sums), if_neg (by show ¬ 50 < 1; omega)]
  rfl
theorem ex_build (va vb : Value) : (buildP (exPs va vb)).2 = 0 := by
  obtain ⟨s, h, -⟩ := ex_go va vb
  unfold buildP
  rw [show (exPs va vb).length = 2 from rfl, h]
theorem ex_open (va vb : Value) : ∃ p, openP (buildP (exPs va vb)).1 = .ok p ∧ lenQ (some p) = 2 ∧ getQ (some p) (Sha.sum exB) = ((exB, 1), 0) := by
  obtain ⟨s, h, hi, hd⟩ := ex_go va vb
  refine ⟨_, open_build (ex_light va vb) h, ?_, ?_⟩
  · show (sortB s.ids).length = 2
    rw [sortB_len, hi]; rfl
  · have : objB (exPs va vb) s (Sha.sum exB) = some (exB, 1) := by
      refine lookup_zip_at _ _ 1 _ _ ?_ ?_ ?_
      · rw [hi]; simp [ex_sums.symm]
      · rw [hi]; rfl
      · rw [hd]; rfl
    show (match objB (exPs va vb) s (Sha.sum exB) with | none => _ | some x => _) = _
    rw [this]
theorem ex_none : (buildP []).1.length = 1062 ∧ (buildP []).2 = 0 := by
  have h : bgo [] 0 = .ok ⟨80 :: Lib.uvarint 0, [], [], [], 0⟩ := rfl
  have hk := bgo_ok (ps := []) ⟨by simp, fun p hp => by cases hp⟩ 0 _ (Nat.le_refl _) h
  have e : buildP [] = ((80 :: Lib.uvarint 0) ++ behindB ⟨80 :: Lib.uvarint 0, [], [], [], 0⟩ (80 :: Lib.uvarint 0).length ++ Sha.sum ((80 :: Lib.uvarint 0) ++ behindB ⟨80 :: Lib.uvarint 0, [], [], [], 0⟩ (80 :: Lib.uvarint 0).length), 0) := rfl
  rw [e]
  refine ⟨?_, rfl⟩
  rw [List.length_append, List.length_append, behindB_len hk, Sha.sum_length, Lib.uvarint_small (by omega)]
  rfl
open Go.RowKit
set_option maxRecDepth 100000
theorem pk24_ty24 : Tryd.prog.underlying 24 = some (.slice 5) := by kernel_rfl
theorem pk24_ty5 : Tryd.prog.underlying 5 = some (.int .u8) := by kernel_rfl
theorem pk24_bd55si_01 {z0 : Value} (h0 : ∃ ao n c, z0 = .slice ao n c) (z1 : Int) (w : World) : (Instr.build 55 #[(0, z0), (1, .int .i64 z1)]).run Tryd.prog w = .ok (.agg ([z0, .int .i64 z1] : List Value).toArray) w := by obtain ⟨_, _, _, rfl⟩ := h0; kernel_rfl
theorem pk24_l2h28 (c0 c1 d0 d1 : Value) (w : World) : (Instr.buildSlice 28 2 #[(0, .agg #[c0, c1]), (1, .agg #[d0, d1])]).run Tryd.prog w = .ok (.slice (some ⟨w.heap.size, 0, none⟩) 2 2) (w.alloc (.cells #[c0, c1, d0, d1] 55)) := by kernel_rfl
theorem pk24_l2g28 : ∀ (cs cs' : Array Value), cs.size = 2 → cs'.size = 2 → ∀ w : World, (Instr.buildSlice 28 2 #[(0, .agg cs), (1, .agg cs')]).run Tryd.prog w = .ok (.slice (some ⟨w.heap.size, 0, none⟩) 2 2) (w.alloc (.cells (cs ++ cs') 55))
 | ⟨[c0, c1]⟩, ⟨[d0, d1]⟩, _, _, w => pk24_l2h28 c0 c1 d0 d1 w
theorem pk24_pl11 : Plain Tryd.prog 11 := fun _ _ => by kernel_rfl
theorem pk24_pl15 : Plain Tryd.prog 15 := fun _ _ => by kernel_rfl
theorem pk24_rows1_75 (ao : Option Addr) (n c : Nat) (w : World) : (Instr.buildSlice 75 1 #[(0, .slice ao n c)]).run Tryd.prog w = .ok (.slice (some ⟨w.heap.size, 0, none⟩) 1 1) (w.alloc (.cells #[.slice ao n c] 24)) := by kernel_rfl
theorem pk24_pl17 : Plain Tryd.prog 17 := fun _ _ => by kernel_rfl
theorem pk24_pl19 : Plain Tryd.prog 19 := fun _ _ => by kernel_rfl
theorem pk24_pl16 : Plain Tryd.prog 16 := fun _ _ => by kernel_rfl
set_option maxHeartbeats 1600000
theorem awake11 (w : World) (hG : Laid w) :
  Calls Tryd.prog 14 #[] w fun e w' => e = .returned (.bool true) ∧ Ext w w' := by
 refine gG (args := []) Tryd.func14 rfl 66 rfl rfl ?_
 have hE := Ext.refl w
 refine gS (Yk.litN (e := 5) ([97, 98, 99, 100, 101, 102, 103, 104] : List UInt8) (by decide) (fun _ _ => by kernel_rfl) fun v3 w4 hN5 => ?_)
 have ho6 := hN5.own
 refine gS (Yk.convMark pk24_ty24 pk24_ty5 rfl ho6 (by decide) fun w7 hr8 hg9 => ?_)
 have hE := hE.trans hN5.ext
 have hE := ext_grew hE hg9 ho6 (Nat.le_refl _)
 clear ho6
 refine gS (Yk.build2 (vr v3 rfl) (vr (.int .i64 (-1 : Int)) rfl) (fun w => pk24_bd55si_01 (RB.slice hr8) (-1) w) (gS (Yk.litN (e := 5) ([97, 98, 99, 100, 101, 102, 103, 104, 105] : List UInt8) (by decide) (fun _ _ => by kernel_rfl) fun v10 w11 hN12 => ?_)))
 have hA13 := Ext.refl w7
 have hz15 := hE.size
 have ho16 := hN12.own
 refine gS (Yk.convMark pk24_ty24 pk24_ty5 rfl ho16 (by decide) fun w17 hr18 hg19 => ?_)
 have hE := hE.trans hN12.ext
 have hE := ext_grew hE hg19 ho16 hz15
 have hA13 := hA13.trans hN12.ext
 have hA13 := ext_grew hA13 hg19 ho16 (Nat.le_refl _)
 clear ho16
 refine gS (Yk.build2 (vr v10 rfl) (vr (NI 0) rfl) (fun w => pk24_bd55si_01 (RB.slice hr18) (((0 : Nat) : Int)) w) (gS (Yk.lit2G (a := (⟨v3, ([97, 98, 99, 100, 101, 102, 103, 104] : List UInt8), -1⟩ : Pt)) (b := (⟨v10, ([97, 98, 99, 100, 101, 102, 103, 104, 105] : List UInt8), 0⟩ : Pt)) (enc := partC) (show _ = (.agg ([v3, .int .i64 (-1 : Int)]).toArray : Value) from rfl) (vr (.agg ([v10, NI 0]).toArray) rfl) (rfl) (rfl) pk24_l2g28 fun v20 w21 hr22 hx23 => ?_)))
 have hE := hE.trans hx23
 have hA13 := hA13.trans hx23
 have hr18 := hr18.keep hx23
 refine gS (Yk.callA1 pk24_pl11 rfl ((build_any _ (hG.keep hE) v20 (exPs v3 v10) hr22 (by intro p hp; simp only [exPs, List.mem_cons, List.not_mem_nil, or_false] at hp; rcases hp with rfl | rfl; exact ⟨(hr8.keep hA13), by dsimp only; omega, by dsimp only; omega⟩; exact ⟨hr18, by dsimp only; omega, by dsimp only; omega⟩) (ex_light _ _)).mono ?_))
 rintro e w27 ⟨v24, rfl, hr25, hx26⟩
 refine ⟨_, rfl, ?_⟩
 have hE := hE.trans hx26
 refine gS (Yk.extract (vs := [v24, NI ((buildP (exPs v3 v10)).2)]) rfl rfl (gS (Yk.extract (vs := [v24, NI ((buildP (exPs v3 v10)).2)]) rfl rfl (gS (Yk.callA1 pk24_pl15 rfl ((open_any _ (hG.keep hE) v24 ((buildP (exPs v3 v10)).1) hr25).mono ?_))))))
 rintro e w33 ⟨_, rfl, v29, k30, rfl, hO31, hx32⟩
 refine ⟨_, rfl, ?_⟩
 obtain ⟨pk, hpk, hlen, hget⟩ := ex_open v3 v10
 rw [hpk] at hO31
 obtain ⟨hc0, hat⟩ := hO31
 subst hc0
 have hq : PackO w33 v29 (some pk) := hat
 refine gS (Yk.extract (vs := [v29, NI 0]) rfl rfl (gS (Yk.extract (vs := [v29, NI 0]) rfl rfl (gS (Yk.litN (e := 5) ([97, 98, 99, 100, 101, 102, 103, 104, 105] : List UInt8) (by decide) (fun _ _ => by kernel_rfl) fun v35 w36 hN37 => ?_)))))
 have hA38 := Ext.refl w33
 have hE := hE.trans hx32
 have hZ1 := hx26.trans hx32
 have hA13 := hA13.trans hZ1
 have hz41 := hE.size
 have hz42 := hA13.size
 have ho43 := hN37.own
 refine gS (Yk.convMark pk24_ty24 pk24_ty5 rfl ho43 (by decide) fun w44 hr45 hg46 => ?_)
 have hE := hE.trans hN37.ext
 have hE := ext_grew hE hg46 ho43 hz41
 have hA13 := hA13.trans hN37.ext
 have hA13 := ext_grew hA13 hg46 ho43 hz42
 have hA38 := hA38.trans hN37.ext
 have hA38 := ext_grew hA38 hg46 ho43 (Nat.le_refl _)
 clear ho43
 refine gS (Yk.rows1 pk24_rows1_75 (RB.of hr45 (vr v35 rfl)) fun v47 w48 hr49 hx50 => ?_)
 have hE := hE.trans hx50
 refine gS (Yk.callA1 pk24_pl17 rfl ((sum_one _ (hG.keep hE) v47 (([97, 98, 99, 100, 101, 102, 103, 104, 105] : List UInt8)) hr49 (by decide)).mono ?_))
 rintro e w52 ⟨rfl, hx51⟩
 refine ⟨_, rfl, ?_⟩
 have hZ2 := hx50.trans hx51
 have hA38 := hA38.trans hZ2
 refine gS (Yk.callA2 pk24_pl19 rfl rfl ((pdep_any _ (v29) (some pk) (hq.keep hA38) (Sha.sum (([97, 98, 99, 100, 101, 102, 103, 104, 105] : List UInt8))) (Sha.sum_length _)).mono ?_))
 rintro e w54 ⟨rfl, hx53⟩
 refine ⟨_, rfl, ?_⟩
 have hZ3 := hx51.trans hx53
 have hE := hE.trans hZ3
 refine gS (Yk.extract (vs := [NI ((getQ (some pk) (Sha.sum (([97, 98, 99, 100, 101, 102, 103, 104, 105] : List UInt8)))).1.2), NI ((getQ (some pk) (Sha.sum (([97, 98, 99, 100, 101, 102, 103, 104, 105] : List UInt8)))).2)]) rfl rfl (gS (Yk.extract (vs := [NI ((getQ (some pk) (Sha.sum (([97, 98, 99, 100, 101, 102, 103, 104, 105] : List UInt8)))).1.2), NI ((getQ (some pk) (Sha.sum (([97, 98, 99, 100, 101, 102, 103, 104, 105] : List UInt8)))).2)]) rfl rfl (gS (Yk.callA1 pk24_pl11 rfl ((build_any _ (hG.keep hE) (.slice none 0 0) [] (RG.nil _ _ _) (fun p hp => by cases hp) ⟨by simp, fun p hp => by cases hp⟩).mono ?_))))))
 rintro e w59 ⟨v56, rfl, hr57, hx58⟩
 refine ⟨_, rfl, ?_⟩
 have hA38 := hA38.trans (hx53.trans hx58)
 refine gS (Yk.extract (vs := [v56, NI ((buildP []).2)]) rfl rfl (gS (Yk.extract (vs := [v56, NI ((buildP []).2)]) rfl rfl (gS (Yk.eqI (a := ((buildP (exPs v3 v10)).2 : Nat)) (b := (0 : Nat)) rfl rfl (k_eql _ _ _ _) (kT (ex_build v3 v10) (gS (Yk.eqI (a := (0 : Nat)) (b := (0 : Nat)) rfl rfl (k_eql _ _ _ _) (kT (rfl) (gS (Yk.pickT rfl rfl (gS (Yk.eqI (a := ((getQ (some pk) (Sha.sum (([97, 98, 99, 100, 101, 102, 103, 104, 105] : List UInt8)))).2 : Nat)) (b := (0 : Nat)) rfl rfl (k_eql _ _ _ _) (kT (by rw [hget]) (gS (Yk.pickT rfl rfl (gS (Yk.eqI (a := ((buildP []).2 : Nat)) (b := (0 : Nat)) rfl rfl (k_eql _ _ _ _) (kT (ex_none.2) (gS (Yk.pickT rfl rfl (gS (Yk.eqI (a := ((getQ (some pk) (Sha.sum (([97, 98, 99, 100, 101, 102, 103, 104, 105] : List UInt8)))).1.2 : Nat)) (b := (1 : Nat)) rfl rfl (k_eql _ _ _ _) (kT (by rw [hget]) (gS (Yk.pickT rfl rfl (gS (Yk.callA1 pk24_pl16 rfl ((plen_any _ (v29) (some pk) (hq.keep hA38)).mono ?_)))))))))))))))))))))))))))))
 rintro e w62 ⟨rfl, hx61⟩
 refine ⟨_, rfl, ?_⟩
 have hr57 := hr57.keep hx61
 refine gS (Yk.eqI (a := (lenQ (some pk) : Nat)) (b := (2 : Nat)) rfl rfl (k_eql _ _ _ _) (kT (hlen) (gS (Yk.pickT rfl rfl (gS (Yk.lenRB pk24_ty24 (RB.of hr57 rfl) (gS (Yk.eqI (a := (((buildP []).1 : List UInt8).length : Nat)) (b := (1062 : Nat)) rfl rfl (k_eql _ _ _ _) (kT (ex_none.1) (gS (Yk.pickT rfl rfl (rt1 rfl (vr (.bool (true)) rfl) ?_))))))))))))
 have hE := hE.trans (hx58.trans hx61)
 exact ⟨rfl, hE⟩

open Go.ChangeShapes Go.WideShapes Go.ChangeAt Go.RowKit
theorem g_first : Tryd.prog.globalNamed "variorum/sha.first" = some 0 := by kernel_rfl
theorem gt_first : (Tryd.prog.globals[0]?).map (·.type) = some 88 := by kernel_rfl
theorem gc_first : Tryd.prog.cellsOf 88 = 8 := by kernel_rfl
def zs_first : List Int := [1779033703, 3144134277, 1013904242, 2773480762, 1359893119, 2600822924, 528734635, 1541459225]
theorem zs_first_eq : (zs_first.map fun z => Value.int .u32 z).toArray = cellsU Sha.first := by kernel_rfl
theorem g_words : Tryd.prog.globalNamed "variorum/sha.words" = some 1 := by kernel_rfl
theorem gt_words : (Tryd.prog.globals[1]?).map (·.type) = some 89 := by kernel_rfl
theorem gc_words : Tryd.prog.cellsOf 89 = 64 := by kernel_rfl
def zs_words : List Int := [1116352408, 1899447441, 3049323471, 3921009573, 961987163, 1508970993, 2453635748, 2870763221, 3624381080, 310598401, 607225278, 1426881987, 1925078388, 2162078206, 2614888103, 3248222580, 3835390401, 4022224774, 264347078, 604807628, 770255983, 1249150122, 1555081692, 1996064986, 2554220882, 2821834349, 2952996808, 3210313671, 3336571891, 3584528711, 113926993, 338241895, 666307205, 773529912, 1294757372, 1396182291, 1695183700, 1986661051, 2177026350, 2456956037, 2730485921, 2820302411, 3259730800, 3345764771, 3516065817, 3600352804, 4094571909, 275423344, 430227734, 506948616, 659060556, 883997877, 958139571, 1322822218, 1537002063, 1747873779, 1955562222, 2024104815, 2227730452, 2361852424, 2428436474, 2756734187, 3204031479, 3329325298]
theorem zs_words_eq : (zs_words.map fun z => Value.int .u32 z).toArray = cellsU Sha.words := by kernel_rfl
theorem gc_u : Tryd.prog.cellsOf 87 = 1 := by kernel_rfl
theorem var_block {P : Program} {W : World} {name : String} {g : Nat} {cs : Array Value} (hg : P.globalNamed name = some g) (h : W.var? P name = some cs) : ∃ t fr, W.heap[g]? = some (.cells cs t fr) := by
 unfold World.var? at h
 rw [hg] at h
 simp only [Option.bind_some] at h
 split at h
 ·rename_i cs' t fr he
  cases h
  exact ⟨t, fr, he⟩
 ·cases h
theorem laid_of {W : World} (h : laidMetH Tryd.prog [("variorum/sha.first", Rows.laid_variorum_sha_first), ("variorum/sha.words", Rows.laid_variorum_sha_words)] W) : Laid W := by
 have h1 : Lib.TabIs Tryd.prog W "variorum/sha.first" .u32 zs_first := Lib.tabIs_of_head g_first gt_first Tryd.underlying88 Tryd.underlying87 gc_u gc_first h
 have h2 : Lib.TabIs Tryd.prog W "variorum/sha.words" .u32 zs_words := Lib.tabIs_of_head (rest := []) g_words gt_words Tryd.underlying89 Tryd.underlying87 gc_u gc_words (laidMet.tail h)
 unfold Lib.TabIs at h1 h2
 rw [zs_first_eq] at h1
 rw [zs_words_eq] at h2
 exact ⟨var_block g_first h1, var_block g_words h2⟩
noncomputable def laidWorld (os : Os) : World :=
 let h0 := (World.holding Tryd.prog os ⟨#[], #[], []⟩).heap
 let h1 := h0.modify 0 fun
   | .cells _ t frozen => .cells (cellsU Sha.first) t frozen
   | o => o
 let h2 := h1.modify 1 fun
   | .cells _ t frozen => .cells (cellsU Sha.words) t frozen
   | o => o
 { World.holding Tryd.prog os ⟨#[], #[], []⟩ with heap := h2 }
theorem laid_met (os : Os) (args : Array Value) : laidMet Tryd.prog [("variorum/sha.first", Rows.laid_variorum_sha_first), ("variorum/sha.words", Rows.laid_variorum_sha_words)] ((laidWorld os).forCall (fun _ _ => 0) ⟨#[], args, []⟩).memory :=
 laidMet_of_run' 8 (by kernel_rfl) (by kernel_rfl)
open Go.RowKit
def qOf : Except Nat PackV → Option PackV
  | .ok p => some p
  | .error _ => none
structure ObGood (ids : List Bs) (o : ObS) : Prop where
  all : ∀ id ∈ ids, ∃ x d, o.O id = some (x, d) ∧ Sha.sum x = id ∧ x.length ≤ o.total
  any : ∀ id x, o.O id = some x → Sha.sum x.1 = id ∧ x.1.length ≤ o.total ∧ id ∈ ids
  total : o.total ≤ 4194304
theorem objGo_good {E : Bs → Ent} {ids : List Bs} : ∀ {n : Nat} {o : ObS}, n ≤ ids.length → objGo E ids n = .ok o → ObGood (ids.take n) o
  | 0, o, _, h => by
    cases h
    exact ⟨(fun id hid => by simp at hid), (fun id x hx => by cases hx), Nat.zero_le _⟩
  | n + 1, o, hn, h => by
    cases h1 : objGo E ids n with
    | error e1 => rw [objGo_err h1 1] at h; cases h
    | ok s =>
      have ih := objGo_good (by omega) h1
      rw [objGo_step h1] at h
      have ht : ids.take (n + 1) = ids.take n ++ [ids.getD n []] := by
        rw [List.take_succ_eq_append_getElem (by omega), List.getD_eq_getElem?_getD, List.getElem?_eq_getElem (show n < ids.length by omega)]; rfl
      cases hd : depthGo E 50 (E (ids.getD n [])) with
      | none => rw [objStep_17 hd] at h; cases h
      | some d =>
        cases hc : chainGo E (d + 1) (ids.getD n []) with
        | none => rw [objStep_6 hd hc] at h; cases h
        | some x =>
          rw [objStep_eq (b := x.1) (k := x.2) hd hc] at h
          split at h
          · split at h
            · cases h
              rename_i hs hle
              refine ⟨fun id hid => ?_, fun id y hy => ?_, hle⟩
              · rw [ht] at hid
                by_cases e : id = ids.getD n []
                · exact ⟨x.1, d, by show updM s.O _ _ id = _; unfold updM; rw [if_pos e], by rw [e]; exact hs, by dsimp only; omega⟩
                · obtain ⟨y, d', k1, k2, k3⟩ := ih.all id (by
                    rcases List.mem_append.1 hid with q | q
                    · exact q
                    · exact absurd (List.mem_singleton.1 q) e)
                  exact ⟨y, d', by show updM s.O _ _ id = _; unfold updM; rw [if_neg e]; exact k1, k2, by dsimp only; omega⟩
              · have hy' : updM s.O (ids.getD n []) (some (x.1, d)) id = some y := hy
                unfold updM at hy'
                rw [ht]
                split at hy'
                · cases hy'
                  rename_i e
                  exact ⟨by rw [e]; exact hs, by dsimp only; omega, by rw [e]; simp⟩
                · obtain ⟨k1, k2, k3⟩ := ih.any id y hy'
                  exact ⟨k1, by dsimp only; omega, by simp [k3]⟩
            · cases h
          · cases h
structure PackGood (b : Bs) (p : PackV) : Prop where
  len : p.1.length ≤ b.length
  l32 : ∀ id ∈ p.1, id.length = 32
  all : ∀ id ∈ p.1, ∃ x d, p.2 id = some (x, d) ∧ Sha.sum x = id ∧ x.length ≤ 4194304
  any : ∀ id x, p.2 id = some x → Sha.sum x.1 = id ∧ x.1.length ≤ 4194304 ∧ id ∈ p.1
theorem readP_good {b : Bs} {p : PackV} (h36 : 36 ≤ b.length) (h : readP b = .ok p) : PackGood b p := by
  unfold readP at h
  split at h
  · cases h
  · rename_i x hx
    unfold readA at h
    split at h
    · rename_i hc
      split at h
      · rename_i hn
        unfold readB at h
        split at h
        · cases h
        · rename_i es hes
          have hel := entriesP_len hes (by omega)
          unfold readC at h
          split at h
          · cases h
          · rename_i s hs
            have hi := ixGo_ok _ _ hs
            unfold readD at h
            split at h
            · split at h
              · unfold readE at h
                split at h
                · cases h
                · rename_i o ho
                  cases h
                  have hg := objGo_good (Nat.le_refl _) ho
                  rw [List.take_length] at hg
                  refine ⟨?_, fun id hid => ?_, fun id hid => ?_, fun id y hy => ?_⟩
                  · show s.ids.length ≤ _
                    rw [hi.len, hel.1]; omega
                  · obtain ⟨j, hj, rfl⟩ := hi.ids id hid
                    refine rowId_len (n := x.1) ?_ (by rw [hel.1] at hj; exact hj)
                    rw [List.length_take, List.length_drop]
                    omega
                  · obtain ⟨y, d, k1, k2, k3⟩ := hg.all id hid
                    exact ⟨y, d, k1, k2, Nat.le_trans k3 hg.total⟩
                  · obtain ⟨k1, k2, k3⟩ := hg.any id y hy
                    exact ⟨k1, Nat.le_trans k2 hg.total, k3⟩
              · cases h
            · cases h
      · cases h
    · cases h
theorem openP_good {b : Bs} {p : PackV} (h : openP b = .ok p) : PackGood b p := by
  unfold openP at h
  split at h
  · cases h
  · split at h
    · cases h
    · split at h
      · exact readP_good (by omega) h
      · cases h
theorem open_ids (b : Bs) : (idsQ (qOf (openP b))).length ≤ b.length ∧ (∀ id ∈ idsQ (qOf (openP b)), id.length = 32 ∧ (getQ (qOf (openP b)) id).2 = 0 ∧ Sha.sum (getQ (qOf (openP b)) id).1.1 = id) := by
  cases h : openP b with
  | error e => exact ⟨Nat.zero_le _, (fun id hid => by cases hid)⟩
  | ok p =>
    have g := openP_good h
    refine ⟨g.len, fun id hid => ⟨g.l32 id hid, ?_⟩⟩
    obtain ⟨x, d, h1, h2, h3⟩ := g.all id hid
    have e : getQ (qOf (.ok p)) id = ((x, d), 0) := by show (match p.2 id with | none => _ | some x => _) = _; rw [h1]
    rw [e]
    exact ⟨rfl, h2⟩
theorem open_get (b : Bs) (id : Bs) : (getQ (qOf (openP b)) id).1.1.length ≤ 4194304 := by
  cases h : openP b with
  | error e => exact Nat.zero_le _
  | ok p =>
    have g := openP_good h
    show (match p.2 id with | none => (([], 0), 12) | some x => (x, 0)).1.1.length ≤ 4194304
    cases h1 : p.2 id with
    | none => exact Nat.zero_le _
    | some x => exact (g.any id x h1).2.1
open Go.RowKit
def ptD (p : Pt) : Bs × Int := (p.bytes, p.base)
theorem ptD_get {ps qs : List Pt} (h : qs.map ptD = ps.map ptD) (i : Nat) : (qs.getD i dPt).bytes = (ps.getD i dPt).bytes ∧ (qs.getD i dPt).base = (ps.getD i dPt).base := by
  have h1 : (qs.map ptD)[i]? = (ps.map ptD)[i]? := by rw [h]
  rw [List.getElem?_map, List.getElem?_map] at h1
  rw [List.getD_eq_getElem?_getD, List.getD_eq_getElem?_getD]
  cases ha : qs[i]? <;> cases hb : ps[i]? <;> rw [ha, hb] at h1
  · exact ⟨rfl, rfl⟩
  · cases h1
  · cases h1
  · injection h1 with h1
    exact ⟨congrArg Prod.fst h1, congrArg Prod.snd h1⟩
theorem ptD_len {ps qs : List Pt} (h : qs.map ptD = ps.map ptD) : qs.length = ps.length := by simpa using congrArg List.length h
theorem bgo_congr {ps qs : List Pt} (h : qs.map ptD = ps.map ptD) : ∀ i, bgo qs i = bgo ps i
  | 0 => by unfold bgo; rw [ptD_len h]
  | i + 1 => by
    have ih := bgo_congr h i
    have hi := ptD_get h i
    cases hb : bgo ps i with
    | error e => rw [bgo_err hb 1, bgo_err (ih.trans hb) 1]
    | ok s =>
      rw [bgo_step hb, bgo_step (ih.trans hb)]
      have hd : depthB (qs.getD i dPt) s = depthB (ps.getD i dPt) s := by unfold depthB; rw [hi.2]
      have hn : bnext qs (qs.getD i dPt) s = bnext ps (ps.getD i dPt) s := by
        unfold bnext
        rw [hd, hi.1, hi.2, (ptD_get h (ps.getD i dPt).base.toNat).1]
      unfold pstep
      rw [hi.1, hi.2, hd, hn]
theorem buildP_congr {ps qs : List Pt} (h : qs.map ptD = ps.map ptD) : buildP qs = buildP ps := by
  unfold buildP
  rw [ptD_len h, bgo_congr h]
theorem light_congr {ps qs : List Pt} (h : qs.map ptD = ps.map ptD) (hL : LightP ps) : LightP qs := by
  refine ⟨by rw [ptD_len h]; exact hL.1, fun p hp => ?_⟩
  obtain ⟨i, hi, rfl⟩ := List.getElem_of_mem hp
  have h1 := (ptD_get h i).1
  rw [List.getD_eq_getElem?_getD, List.getElem?_eq_getElem hi] at h1
  have h2 := hL.2 _ (getD_mem dPt (l := ps) (i := i) (by rw [← ptD_len h]; exact hi))
  have h3 : (qs[i]).bytes = (ps.getD i dPt).bytes := h1
  rw [h3]
  exact h2
theorem build_told_own (w : World) (hG : Laid w) (v : Value) (ps qs : List Pt) (hr : RG 2 partC w v qs) (hps : PartsOk w qs) (hq : qs.map ptD = ps.map ptD) (hL : LightP ps) :
    Calls Tryd.prog 11 #[v] w fun e w' => ∃ v', e = .returned (.tuple #[v', NI (buildP ps).2]) ∧ w'.ownsRow w.heap.size 5 1 v' (buildP ps).1.length (Lib.byteCells (buildP ps).1) ∧ Ext w w' := by
  have h := build_own w hG v qs hr hps (light_congr hq hL)
  rw [buildP_congr hq] at h
  exact h
def PartsIn (w : World) (va : Value) (qs : List Pt) : Prop := ∀ x ∈ qs, RB w x.v x.bytes ∧ (-9223372036854775808 ≤ x.base ∧ x.base ≤ 9223372036854775807) ∧ ∀ k, x.v.ownBlock = some k → k < w.heap.size ∧ va.ownBlock ≠ some k
theorem PartsIn.keep {w w' : World} {va : Value} {qs : List Pt} (h : PartsIn w va qs) (k : Ext w w') : PartsIn w' va qs := fun x hx =>
  ⟨(h x hx).1.keep k, (h x hx).2.1, fun j hj => ⟨Nat.lt_of_lt_of_le ((h x hx).2.2 j hj).1 k.size, ((h x hx).2.2 j hj).2⟩⟩
theorem PartsIn.nil (w : World) (va : Value) : PartsIn w va [] := fun x hx => by cases hx
theorem PartsIn.snoc {w : World} {va : Value} {qs : List Pt} (h : PartsIn w va qs) {x : Pt} (h1 : RB w x.v x.bytes) (h2 : -9223372036854775808 ≤ x.base ∧ x.base ≤ 9223372036854775807) (h3 : ∀ k, x.v.ownBlock = some k → k < w.heap.size ∧ va.ownBlock ≠ some k) : PartsIn w va (qs ++ [x]) := fun y hy => by
  rcases List.mem_append.1 hy with hy | hy
  · exact h y hy
  · rw [List.mem_singleton.1 hy]; exact ⟨h1, h2, h3⟩
theorem PartsIn.grew {w w' : World} {va va' : Value} {qs : List Pt} (h : PartsIn w va qs) (g : Grew w w' va va') : PartsIn w' va' qs := fun x hx =>
  ⟨rb_grewX (h x hx).1 (fun k hk => ((h x hx).2.2 k hk).2) g, (h x hx).2.1, fun j hj => ⟨Nat.lt_of_lt_of_le ((h x hx).2.2 j hj).1 g.by_.size, fun e => (g.fresh j e).elim (fun q => ((h x hx).2.2 j hj).2 q) (fun q => by have := ((h x hx).2.2 j hj).1; omega)⟩⟩
theorem PartsIn.ok {w : World} {va : Value} {qs : List Pt} (h : PartsIn w va qs) : PartsOk w qs := fun x hx => ⟨(h x hx).1, (h x hx).2.1⟩
def NewR (w0 : World) (B : Bs) (x : Value) (w : World) : Prop := RB w x B ∧ ∀ k, x.ownBlock = some k → w0.heap.size ≤ k ∧ k < w.heap.size
def NewP (w0 : World) (B : Bs) (z : Int) (x : Value) (w : World) : Prop := ∃ v, x = .agg (partC ⟨v, B, z⟩).toArray ∧ NewR w0 B v w
def NewPs (w0 : World) (B : Bs) (z : Int) (x : Value) (w : World) : Prop := ∃ v, RG 2 partC w x [⟨v, B, z⟩] ∧ NewR w0 B v w
theorem NewR.keep {w0 w w' : World} {B : Bs} {x : Value} (h : NewR w0 B x w) (k : Ext w w') : NewR w0 B x w' := ⟨h.1.keep k, fun j hj => ⟨(h.2 j hj).1, Nat.lt_of_lt_of_le (h.2 j hj).2 k.size⟩⟩
theorem NewP.keep {w0 w w' : World} {B : Bs} {z : Int} {x : Value} (h : NewP w0 B z x w) (k : Ext w w') : NewP w0 B z x w' := by
  obtain ⟨v, h1, h2⟩ := h
  exact ⟨v, h1, h2.keep k⟩
theorem NewPs.keep {w0 w w' : World} {B : Bs} {z : Int} {x : Value} (h : NewPs w0 B z x w) (k : Ext w w') : NewPs w0 B z x w' := by
  obtain ⟨v, h1, h2⟩ := h
  exact ⟨v, h1.keep k, h2.keep k⟩
theorem NewR.of {e : TypeId} {w0 w1 w2 : World} {B : Bs} {v : Value} (h : NewB e w1 w2 v B) (k : Ext w0 w1) : NewR w0 B v w2 := ⟨h.rb, fun j hj => ⟨Nat.le_trans k.size (h.own.lt j hj).1, (h.own.lt j hj).2⟩⟩
theorem part_snoc (ps : List Pt) {i : Nat} (h : i < ps.length) (v : Value) : (ps.take i).map ptD ++ [ptD ⟨v, (ps.getD i dPt).bytes, (ps.getD i dPt).base⟩] = (ps.take (i + 1)).map ptD := by
  rw [List.take_succ_eq_append_getElem h, List.map_append]
  rw [List.getD_eq_getElem?_getD, List.getElem?_eq_getElem h]
  rfl
theorem pstep_e {ps : List Pt} {i e : Nat} {s : BS} (h : pstep ps i s = .error e) : e ≠ 0 := by
  unfold pstep at h
  split at h
  · cases h; decide
  · split at h
    · cases h; decide
    · split at h
      · cases h; decide
      · cases h
theorem bgo_e {ps : List Pt} : ∀ {i e : Nat}, bgo ps i = .error e → e ≠ 0
  | 0, e, h => by cases h
  | i + 1, e, h => by
    cases hb : bgo ps i with
    | error e1 => rw [bgo_err hb 1] at h; cases h; exact bgo_e hb
    | ok s => rw [bgo_step hb] at h; exact pstep_e h
theorem build_no {ps : List Pt} {e : Nat} (h : bgo ps ps.length = .error e) : buildP ps = ([], e) := by unfold buildP; rw [h]
theorem build_yes {ps : List Pt} {s : BS} (h : bgo ps ps.length = .ok s) : (buildP ps).2 = 0 := by unfold buildP; rw [h]
open Go.RowKit
set_option maxRecDepth 100000
theorem pk26_ty22 : Tryd.prog.underlying 22 = some (.slice 41) := by kernel_rfl
theorem pk26_szg41 : ∀ w' : World, (sizeOf 41).run Tryd.prog w' = .ok 2 w' := fun _ => by kernel_rfl
theorem pk26_fo41_0 : FieldOff Tryd.prog 41 0 0 := fun b o w => by simp [go_sem]
theorem pk26_ty24 : Tryd.prog.underlying 24 = some (.slice 5) := by kernel_rfl
theorem pk26_pl29 : Plain Tryd.prog 29 := fun _ _ => by kernel_rfl
theorem pk26_fo41_1 : FieldOff Tryd.prog 41 1 1 := fun b o w => by simp [go_sem]
theorem pk26_ty3 : Tryd.prog.underlying 3 = some (.int .i64) := by kernel_rfl
theorem pk26_bdP {v : Value} (h : ∃ ao n c, v = .slice ao n c) (z : Int) (w : World) : (Instr.build 55 #[(0, v), (1, .int .i64 z)]).run Tryd.prog w = .ok (.agg ([v, .int .i64 z] : List Value).toArray) w := by obtain ⟨_, _, _, rfl⟩ := h; kernel_rfl
theorem pk26_lh28 (c0 c1 : Value) (w : World) : (Instr.buildSlice 28 1 #[(0, .agg #[c0, c1])]).run Tryd.prog w = .ok (.slice (some ⟨w.heap.size, 0, none⟩) 1 1) (w.alloc (.cells #[c0, c1] 55)) := by kernel_rfl
theorem pk26_lg28 : ∀ (cs : Array Value), cs.size = 2 → ∀ w : World, (Instr.buildSlice 28 1 #[(0, .agg cs)]).run Tryd.prog w = .ok (.slice (some ⟨w.heap.size, 0, none⟩) 1 1) (w.alloc (.cells cs 55))
 | ⟨[c0, c1]⟩, _, w => pk26_lh28 c0 c1 w
theorem pk26_ig55 : ∃ z, (Tryd.prog.info? 55).map (fun i => (i.zero, i.size, i.bytes)) = some (some z, 2, 32) ∧ z.cells.size = 2 := info_ex (by kernel_rfl)
theorem pk26_ty28 : Tryd.prog.underlying 28 = some (.slice 55) := by kernel_rfl
set_option maxHeartbeats 1600000
theorem told_any (w : World) (v : Value) (ps : List Pt) (hr : RG 2 partC w v ps) (hps : PartsOk w ps) (hL : LightP ps) :
  Calls Tryd.prog 12 #[v] w fun e w' => ∃ v' qs, e = .returned v' ∧ RG 2 partC w' v' qs ∧ PartsOk w' qs ∧ qs.map ptD = ps.map ptD ∧ Ext w w' := by
 refine gG (args := [v]) Tryd.func12 rfl 27 rfl rfl ?_
 have hE := Ext.refl w
 have hrow0 : OG w.heap.size 55 2 partC w (Value.slice none 0 0) ([] : List Pt) := OG.nil _ _ _ _ _
 refine gL (fun (ρ : Slots) (wz : World) => ∃ i : Nat, ∃ qs : List Pt, ∃ va : Value, ρ 0 = (v : Value) ∧ ρ 2 = ((Value.slice none 0 0) : Value) ∧ ρ 4 = (NI i : Value) ∧ ρ 3 = (va : Value) ∧ Ext w wz ∧ PartsIn wz va qs ∧ OG w.heap.size 55 2 (partC) wz va (qs) ∧ (i ≤ ps.length) ∧ (qs.map ptD = (ps.take i).map ptD) ∧ True) (fun ρ _ => ps.length - (intOf (ρ 4)).toNat) ⟨0, [], (Value.slice none 0 0), rfl, rfl, rfl, rfl, hE, PartsIn.nil _ _, og_eq hrow0 (rfl), Nat.zero_le _, rfl, trivial⟩ ?_
 clear hrow0
 clear hE
 rintro ρ5 w6 ⟨i, qs, va, T0, T2, T4, T3, hE, hIn, hr_va, hi, hq, -⟩
 have q4 := T4
 by_cases hlt : i < ps.length
 ·have hp2 := hL.2 _ (getD_mem dPt hlt)
  have h60 := hL.1
  have hqn : qs.length ≤ 60 := by have := congrArg List.length hq; simp only [List.length_map, List.length_take] at this; have := hL.1; omega
  have hpr : RB w (ps.getD (i) dPt).v (ps.getD (i) dPt).bytes := (hps _ (getD_mem dPt hlt)).1
  have hpb : -9223372036854775808 ≤ (ps.getD (i) dPt).base ∧ (ps.getD (i) dPt).base ≤ 9223372036854775807 := (hps _ (getD_mem dPt hlt)).2
  refine gS (Yk.lenRG pk26_ty22 (RG.of (hr.keep hE) T0) (gS (Yk.eqI (a := (i : Nat)) (b := (ps.length : Nat)) T4 rfl (k_lss _ _ _ _) (kT (hlt) ?_))))
  have hva0 : ∀ k, Value.ownBlock va = some k → k < w6.heap.size := fun k hk => ((hr_va).2.lt k hk).2
  refine cT rfl (gR ?_)
  refine wpF_draw_cut 14 [Is (va), Is (v), Is (NI i), fun x w' => PR (partC (ps.getD (i) dPt)) x w', fun x w' => PR (((partC (ps.getD (i) dPt)).drop 0).take 1) x w', Is ((ps.getD (i) dPt).v), fun x w' => NewR w6 (ps.getD (i) dPt).bytes x w', Is (v), Is (NI i), fun x w' => PR (partC (ps.getD (i) dPt)) x w', fun x w' => PR (((partC (ps.getD (i) dPt)).drop 1).take 1) x w', Is (.int .i64 ((ps.getD (i) dPt).base : Int)), fun x w' => NewP w6 (ps.getD (i) dPt).bytes (ps.getD (i) dPt).base x w', fun x w' => NewPs w6 (ps.getD (i) dPt).bytes (ps.getD (i) dPt).base x w'] (by kernel_rfl) [11, 12, 13, 14, 15, 16, 17, 18, 19, 20, 21, 22, 23, 24, 25, 3] (by kernel_rfl) (by kernel_rfl) (by kernel_rfl) (by kernel_rfl) rfl rfl (si3 ⟨(fun _ _ _ h k => PR.keep h k), (fun _ _ _ h k => PR.keep h k), Stab.is _, (fun _ _ _ h k => NewR.keep h k), (si2 ⟨(fun _ _ _ h k => PR.keep h k), (fun _ _ _ h k => PR.keep h k), Stab.is _, (fun _ _ _ h k => NewP.keep h k), (fun _ _ _ h k => NewPs.keep h k), trivial⟩)⟩) ?hs1005 ?hQ1005
  case hs1005 =>
   refine ⟨?_, ?_, ?_, ?_, ?_, ?_, ?_, ?_, ?_, ?_, ?_, ?_, ?_, ?_, ?_, ?_, trivial⟩
   ·refine stepFC (stepN rfl fun σ w1 hC h => ?_)
    have e3 := (eqo (h 3 (by decide))).trans T3
    exact Yk.move e3 ⟨Ext.refl _, rfl⟩
   ·refine stepFC (stepN rfl fun σ w1 hC h => ?_)
    have e0 := (eqo (h 0 (by decide))).trans T0
    exact Yk.move e0 ⟨Ext.refl _, rfl⟩
   ·refine stepFC (stepN rfl fun σ w1 hC h => ?_)
    have e4 := (eqo (h 4 (by decide))).trans T4
    exact Yk.move e4 ⟨Ext.refl _, rfl⟩
   ·refine stepFC (stepN rfl fun σ w1 hC h => ?_)
    have e12 := eqo (h 12 (by decide))
    have e13 := eqo (h 13 (by decide))
    exact Yk.atRG pk26_ty22 pk26_szg41 (by decide) dPt (RG.of (hr.keep (hE.trans hC)) e12) e13 (by omega) fun v h => ⟨Ext.refl _, h⟩
   ·refine stepFC (stepN rfl fun σ w1 hC h => ?_)
    have e14 : (fun x w' => PR (partC (ps.getD (i) dPt)) x w') (σ 14) w1 := h 14 (by decide)
    exact Yk.fieldPR (n := 1) pk26_fo41_0 e14 fun v h => ⟨Ext.refl _, h⟩
   ·refine stepFC (stepN rfl fun σ w1 hC h => ?_)
    have e15 : (fun x w' => PR (((partC (ps.getD (i) dPt)).drop 0).take 1) x w') (σ 15) w1 := h 15 (by decide)
    exact Yk.loadC pk26_ty24 rfl (PR.cell e15 (show _ = some ((ps.getD (i) dPt).v : Value) from rfl)) ⟨Ext.refl _, rfl⟩
   ·refine stepFC (stepN rfl fun σ w1 hC h => ?_)
    have e16 := eqo (h 16 (by decide))
    refine Yk.callA1 pk26_pl29 e16 ((copy_any _ (ps.getD (i) dPt).v ((ps.getD (i) dPt).bytes) (hpr.keep (hE.trans hC)) (by omega)).mono ?_)
    rintro e w2 ⟨v, rfl, hN⟩
    exact ⟨_, rfl, hN.ext, NewR.of hN hC⟩
   ·refine stepFC (stepN rfl fun σ w1 hC h => ?_)
    have e0 := (eqo (h 0 (by decide))).trans T0
    exact Yk.move e0 ⟨Ext.refl _, rfl⟩
   ·refine stepFC (stepN rfl fun σ w1 hC h => ?_)
    have e4 := (eqo (h 4 (by decide))).trans T4
    exact Yk.move e4 ⟨Ext.refl _, rfl⟩
   ·refine stepFC (stepN rfl fun σ w1 hC h => ?_)
    have e18 := eqo (h 18 (by decide))
    have e19 := eqo (h 19 (by decide))
    exact Yk.atRG pk26_ty22 pk26_szg41 (by decide) dPt (RG.of (hr.keep (hE.trans hC)) e18) e19 (by omega) fun v h => ⟨Ext.refl _, h⟩
   ·refine stepFC (stepN rfl fun σ w1 hC h => ?_)
    have e20 : (fun x w' => PR (partC (ps.getD (i) dPt)) x w') (σ 20) w1 := h 20 (by decide)
    exact Yk.fieldPR (n := 1) pk26_fo41_1 e20 fun v h => ⟨Ext.refl _, h⟩
   ·refine stepFC (stepN rfl fun σ w1 hC h => ?_)
    have e21 : (fun x w' => PR (((partC (ps.getD (i) dPt)).drop 1).take 1) x w') (σ 21) w1 := h 21 (by decide)
    exact Yk.loadC pk26_ty3 rfl (PR.cell e21 (show _ = some (.int .i64 ((ps.getD (i) dPt).base : Int) : Value) from rfl)) ⟨Ext.refl _, rfl⟩
   ·refine stepFC (stepN rfl fun σ w1 hC h => ?_)
    have e17 : (fun x w' => NewR w6 (ps.getD (i) dPt).bytes x w') (σ 17) w1 := h 17 (by decide)
    have e22 := eqo (h 22 (by decide))
    exact Yk.build2 rfl e22 (fun w => pk26_bdP (RB.slice e17.1) _ w) ⟨Ext.refl _, _, rfl, e17⟩
   ·refine stepFC (stepN rfl fun σ w1 hC h => ?_)
    have e23 : (fun x w' => NewP w6 (ps.getD (i) dPt).bytes (ps.getD (i) dPt).base x w') (σ 23) w1 := h 23 (by decide)
    obtain ⟨v0, e23_, hn_⟩ := e23
    exact Yk.lit1G (enc := partC) (show _ = Value.agg (partC _).toArray from e23_) rfl pk26_lg28 fun v w2 h hx => ⟨hx, v0, h, hn_.keep hx⟩
   ·exact trivial
   ·exact trivial
  intro ρ10 w11 hx12 he hf
  obtain ⟨k11, -, -, -, -, -, -, -, -, -, -, -, -, k24, -⟩ := hf
  obtain ⟨T0, T2, T4, T8, -⟩ := he.hold [(0, _), (2, _), (4, _), (8, .bool (true))] ⟨T0, T2, T4, rfl, trivial⟩ rfl
  clear he
  have hIn : PartsIn w11 va qs := (hIn.keep hx12)
  have T11 : ρ10 11 = va := k11
  have k24 : (fun x w' => NewPs w6 (ps.getD (i) dPt).bytes (ps.getD (i) dPt).base x w') (ρ10 24) w11 := k24
  obtain ⟨v13, T24⟩ : ∃ v, ρ10 24 = v := ⟨_, rfl⟩
  rw [T24] at k24
  have hk14 := k24; clear k24
  obtain ⟨v15, hR16, hN17⟩ := hk14
  clear k11
  refine gZ ?_
  have hIn : PartsIn w11 va (qs ++ [(⟨v15, (ps.getD (i) dPt).bytes, (ps.getD (i) dPt).base⟩ : Pt)]) := PartsIn.snoc hIn hN17.1 hpb (fun k hk => ⟨(hN17.2 k hk).2, fun e => by have h1 := (hN17.2 k hk).1; have h2 := hva0 k e; omega⟩)
  have hE := hE.trans hx12
  have hr_va := hr_va.keep hx12
  refine gS (Yk.appendRG _ _ w.heap.size _ 32 pk26_ty28 pk26_ig55.choose_spec.1 pk26_ig55.choose_spec.2 pk26_ty28 (qs) ([(⟨v15, (ps.getD (i) dPt).bytes, (ps.getD (i) dPt).base⟩ : Pt)]) (OG.of hr_va T11) (RG.of hR16 T24) (fun y hy => by rw [List.mem_singleton.1 hy]; exact partC_one (RB.one hN17.1)) (by simp only [List.length_cons, List.length_nil]; omega) (by simp only [List.length_cons, List.length_nil]; omega) hE.size fun v18 w19 ho20 hg21 => ?_)
  have hIn_ := hIn
  have hg21 : Grew w11 w19 va v18 := .eqv T11 hg21
  have hE := ext_grew hE hg21 hr_va.2 (Nat.le_refl _)
  clear hR16
  clear hr_va
  have hIn : PartsIn w19 v18 (qs ++ [(⟨v15, (ps.getD (i) dPt).bytes, (ps.getD (i) dPt).base⟩ : Pt)]) := PartsIn.grew hIn_ hg21; clear hIn_
  refine gS (Yk.bin (xv := NI i) (yv := NI 1) T4 rfl rfl (i64_add _ _ _ (by omega)) (gK (And.intro ⟨i + 1, qs ++ [(⟨v15, (ps.getD (i) dPt).bytes, (ps.getD (i) dPt).base⟩ : Pt)], v18, T0, T2, rfl, rfl, hE, hIn, og_eq ho20 (rfl), by omega, by rw [List.map_append, hq]; exact part_snoc ps hlt v15, trivial⟩ ?_)))
  show ps.length - (intOf (NI ((i) + (1)))).toNat < ps.length - (intOf (ρ5 4)).toNat
  rw [q4]
  simp only [intOf, Int.toNat_natCast]; omega
 refine gS (Yk.lenRG pk26_ty22 (RG.of (hr.keep hE) T0) (gS (Yk.eqI (a := (i : Nat)) (b := (ps.length : Nat)) T4 rfl (k_lss _ _ _ _) (kF (hlt) (cF rfl (rt1 rfl T3 ?_))))))
 have hil : i = ps.length := by omega
 rw [hil, List.take_length] at hq
 exact ⟨_, qs, rfl, RG.ofOwn hr_va, (hIn).ok, hq, hE⟩

theorem light_any (w : World) (v : Value) (ps : List Pt) (hr : RG 2 partC w v ps) (hps : PartsOk w ps) :
  Calls Tryd.prog 10 #[v] w fun e w' => ∃ c, e = .returned (.bool c) ∧ (c = true ↔ LightP ps) ∧ Ext w w' := by
 refine gG (args := [v]) Tryd.func10 rfl 20 rfl rfl ?_
 have hE := Ext.refl w
 by_cases q1 : 60 < ps.length
 ·refine gS (Yk.lenRG pk26_ty22 (RG.of (hr.keep hE) rfl) (gS (Yk.eqI (a := (ps.length : Nat)) (b := (60 : Nat)) rfl rfl (k_gtr _ _ _ _) (kT (q1) (cT rfl (rt1 rfl (vr (.bool (false)) rfl) ?_))))))
  exact ⟨_, rfl, ⟨fun h => Bool.noConfusion h, fun h => absurd h.1 (by omega)⟩, hE⟩
 refine gS (Yk.lenRG pk26_ty22 (RG.of (hr.keep hE) rfl) (gS (Yk.eqI (a := (ps.length : Nat)) (b := (60 : Nat)) rfl rfl (k_gtr _ _ _ _) (kF (q1) (cF rfl (gL (fun (ρ : Slots) (wz : World) => ∃ i : Nat, ρ 0 = (v : Value) ∧ ρ 6 = (.bool (false) : Value) ∧ ρ 3 = (NI i : Value) ∧ Ext w wz ∧ (i ≤ ps.length) ∧ (∀ p ∈ ps.take i, p.bytes.length ≤ 200) ∧ True) (fun ρ _ => ps.length - (intOf (ρ 3)).toNat) ⟨0, rfl, rfl, rfl, hE, Nat.zero_le _, (fun p hp => by cases hp), trivial⟩ ?_))))))
 clear hE
 rintro ρ9 w10 ⟨i, T0, T6, T3, hE, hi, hq, -⟩
 have q3 := T3
 by_cases hlt : i < ps.length
 ·have hpr : RB w (ps.getD (i) dPt).v (ps.getD (i) dPt).bytes := (hps _ (getD_mem dPt hlt)).1
  have hpb : -9223372036854775808 ≤ (ps.getD (i) dPt).base ∧ (ps.getD (i) dPt).base ≤ 9223372036854775807 := (hps _ (getD_mem dPt hlt)).2
  by_cases q2 : 200 < (ps.getD (i) dPt).bytes.length
  ·refine gS (Yk.lenRG pk26_ty22 (RG.of (hr.keep hE) T0) (gS (Yk.eqI (a := (i : Nat)) (b := (ps.length : Nat)) T3 rfl (k_lss _ _ _ _) (kT (hlt) (cT rfl ?_)))))
   have hl17 : (partC (ps.getD (i) dPt)).length = 2 := (RG.elem (hr.keep hE) dPt (by omega))
   refine gS (Yk.atRG pk26_ty22 pk26_szg41 (by decide) dPt (RG.of (hr.keep hE) T0) T3 (by omega) fun v15 hp16 => (gS (Yk.fieldPR (n := 1) pk26_fo41_0 (PR.of hp16 rfl) fun v18 hp19 => (gS (Yk.loadC pk26_ty24 rfl (PR.cell (PR.of hp19 rfl) rfl) (gS (Yk.lenRB pk26_ty24 (RB.of (hpr.keep hE) rfl) (gS (Yk.eqI (a := (((ps.getD (i) dPt).bytes : List UInt8).length : Nat)) (b := (200 : Nat)) rfl rfl (k_gtr _ _ _ _) (kT (q2) ?_))))))))))
   clear hp16
   clear hp19
   refine cT rfl (rt1 rfl (vr (.bool (false)) rfl) ?_)
   exact ⟨_, rfl, ⟨fun h => Bool.noConfusion h, fun h => absurd (h.2 _ (getD_mem dPt hlt)) (by omega)⟩, hE⟩
  refine gS (Yk.lenRG pk26_ty22 (RG.of (hr.keep hE) T0) (gS (Yk.eqI (a := (i : Nat)) (b := (ps.length : Nat)) T3 rfl (k_lss _ _ _ _) (kT (hlt) (cT rfl ?_)))))
  have hl27 : (partC (ps.getD (i) dPt)).length = 2 := (RG.elem (hr.keep hE) dPt (by omega))
  refine gS (Yk.atRG pk26_ty22 pk26_szg41 (by decide) dPt (RG.of (hr.keep hE) T0) T3 (by omega) fun v25 hp26 => (gS (Yk.fieldPR (n := 1) pk26_fo41_0 (PR.of hp26 rfl) fun v28 hp29 => (gS (Yk.loadC pk26_ty24 rfl (PR.cell (PR.of hp29 rfl) rfl) (gS (Yk.lenRB pk26_ty24 (RB.of (hpr.keep hE) rfl) (gS (Yk.eqI (a := (((ps.getD (i) dPt).bytes : List UInt8).length : Nat)) (b := (200 : Nat)) rfl rfl (k_gtr _ _ _ _) (kF (q2) ?_))))))))))
  clear hp26
  clear hp29
  refine cF rfl (gS (Yk.bin (xv := NI i) (yv := NI 1) T3 rfl rfl (i64_add _ _ _ (by omega)) ?_))
  refine gK (And.intro ⟨i + 1, T0, T6, rfl, hE, by omega, (fun p hp => by rw [List.take_succ_eq_append_getElem hlt] at hp; rcases List.mem_append.1 hp with hp | hp; exact hq p hp; rw [List.mem_singleton.1 hp]; have h2 : ¬ 200 < (ps.getD i dPt).bytes.length := q2; rw [List.getD_eq_getElem?_getD, List.getElem?_eq_getElem hlt] at h2; exact Nat.le_of_not_lt h2), trivial⟩ ?_)
  show ps.length - (intOf (NI ((i) + (1)))).toNat < ps.length - (intOf (ρ9 3)).toNat
  rw [q3]
  simp only [intOf, Int.toNat_natCast]; omega
 refine gS (Yk.lenRG pk26_ty22 (RG.of (hr.keep hE) T0) (gS (Yk.eqI (a := (i : Nat)) (b := (ps.length : Nat)) T3 rfl (k_lss _ _ _ _) (kF (hlt) (cF rfl (rt1 rfl (vr (.bool (true)) rfl) ?_))))))
 rw [show i = ps.length by omega, List.take_length] at hq
 exact ⟨_, rfl, ⟨fun _ => ⟨by omega, hq⟩, fun _ => rfl⟩, hE⟩

open Go.ChangeShapes Go.WideShapes Go.ChangeAt Go.RowKit Go.Deep
instance : Inhabited Pt := ⟨dPt⟩
theorem parts_get : ∀ (l : List Pt) (i r : Nat), r < 2 → i < l.length → (l.flatMap partC)[i * 2 + r]? = (partC (l.getD i dPt))[r]?
  | [], i, _, _, h => by simp at h
  | a :: l, 0, r, hr, _ => by
    rw [List.flatMap_cons, Nat.zero_mul, Nat.zero_add, List.getElem?_append_left (by simpa [partC] using hr)]
    rfl
  | a :: l, i + 1, r, hr, h => by
    rw [List.flatMap_cons, List.getElem?_append_right (by simp [partC]; omega)]
    have := parts_get l i r hr (by simpa using h)
    rw [show (i + 1) * 2 + r - (partC a).length = i * 2 + r by simp [partC]; omega, this]
    rfl
section
variable {H : Type} {enc : TypeId × Value → H} {P : Program} {W : World}
theorem open_parts {t e e8 : TypeId} {f0 f1 : Field} {r : Reach} {b0 : Nat} {v : Value} {d : DataW H} {ps : List MemPlace} (ht : P.underlying t = some (.slice e)) (he : P.underlying e = some (.struct #[f0, f1])) (ce : P.cellsOf e = 2) (o0 : f0.offset = 0) (o1 : f1.offset = 1) (c0 : P.cellsOf f0.type = 1) (c1 : P.cellsOf f1.type = 1)
    (h8 : P.underlying f0.type = some (.slice e8)) (hu : P.underlying e8 = some (.int .u8)) (c8 : P.cellsOf e8 = 1) (hi1 : P.underlying f1.type = some (.int .i64))
    (hval : Value.okWide P W r b0 t v) (hd : DataW.Trod enc P W 0 (fun _ => true) true t v d ps) : ∃ qs, RG 2 partC W v qs ∧ PartsOk W qs ∧ ∀ x ∈ ps, x.block < W.heap.size := by
  obtain ⟨a0, len0, cap0, rfl⟩ := okWide_slice ht hval
  obtain ⟨fuel, hf⟩ := hd
  have hlt := DataW.trod_lt fuel _ _ _ hf
  rcases open_slice_pairs ht he ce o0 o1 c0 c1 hf with ⟨hcs, hx⟩ | ⟨a, len, cap, m, n, V0, V1, D0, D1, P0, P1, hcs, _, hl, hm, hmm, hx, hel⟩
  · simp [Value.cells] at hcs
    obtain ⟨rfl, rfl, rfl⟩ := hcs
    exact ⟨[], RG.nil _ _ _, (fun p hp => by cases hp), hlt⟩
  · simp [Value.cells] at hcs
    obtain ⟨rfl, rfl, rfl⟩ := hcs
    have hmc : m = cap0 := by simpa using hmm
    obtain ⟨L, hL⟩ := choose_lt (α := Pt) (p := fun i q => V0 i = q.v ∧ V1 i = .int .i64 q.base ∧ RB W q.v q.bytes ∧ -9223372036854775808 ≤ q.base ∧ q.base ≤ 9223372036854775807) (fun i (hi : i < len0) => by
      obtain ⟨-, -, g0, g1⟩ := hel i (by omega)
      obtain ⟨c, l, h1, h2, _⟩ := open_bytesC h8 hu c8 g0
      simp only [List.cons.injEq, and_true] at h1
      obtain ⟨z, e1, _, wz⟩ := DataW.trod_int hi1 g1
      simp only [List.cons.injEq, and_true] at e1
      have hz : -9223372036854775808 ≤ z ∧ z ≤ 9223372036854775807 := by simpa [Lit.wf, IntKind.min, IntKind.max, IntKind.signed, IntKind.bits] using wz
      exact ⟨⟨c, l, z⟩, h1, e1, h2, hz⟩)
    have hg : ∀ i, i < len0 → ((List.range len0).map L).getD i dPt = L i := fun i hi => by
      rw [List.getD_eq_getElem?_getD, List.getElem?_map, List.getElem?_range hi]; rfl
    have hlen : ∀ l : List Pt, (l.flatMap partC).length = l.length * 2 := fun l => by
      induction l with
      | nil => rfl
      | cons a l ih => rw [List.flatMap_cons, List.length_append, ih, List.length_cons]; simp [partC]; omega
    refine ⟨(List.range len0).map L, ⟨fun x _ => rfl, hlen _, some a, cap0, by simp, by simpa using hl, hm, (fun h => by cases h), fun a' ha j u hu => ?_⟩, fun p hp => ?_, hlt⟩
    · cases ha
      have hj : j < len0 * 2 := by
        have := (List.getElem?_eq_some_iff.1 hu).1
        rw [hlen] at this
        simpa using this
      have hi : j / 2 < len0 := by omega
      have hu' : ((List.range len0).map L |>.flatMap partC)[j / 2 * 2 + j % 2]? = some u := by rw [show j / 2 * 2 + j % 2 = j by omega]; exact hu
      rw [parts_get _ _ _ (by omega) (by simpa using hi), hg _ hi] at hu'
      obtain ⟨k0, k1, -, -⟩ := hL _ hi
      obtain ⟨w0, w1, -, -⟩ := hel (j / 2) (by omega)
      rcases (by omega : j % 2 = 0 ∨ j % 2 = 1) with h | h
      · rw [h] at hu'
        have : j = j / 2 * 2 := by omega
        rw [this, w0, k0]
        exact hu'
      · rw [h] at hu'
        have : j = j / 2 * 2 + 1 := by omega
        rw [this, w1, k1]
        exact hu'
    · obtain ⟨i, hi, rfl⟩ := List.mem_map.1 hp
      obtain ⟨-, -, k2, k3⟩ := hL i (by simpa using hi)
      exact ⟨k2, k3⟩
end
open Go.RowKit
theorem own_block {b : Nat} {t : TypeId} {w : World} {v : Value} {n z : Nat} {xs : List Value} (h : w.ownsRow b t z v n xs) {i : Nat} (hi : i < n) : ∃ g, v.ownBlock = some g := by
  obtain ⟨-, ⟨-, h⟩ | ⟨g, cap, cur, rfl, -⟩⟩ := h
  · omega
  · exact ⟨g, rfl⟩
section
variable {P : Program} {K : Value → World → Prop} {ρ : Slots} {w : World} {d : Option Tmp} {ty : TypeId} {pos : String} {af : Array Edge} {gd : Option (Nat × Bool)}
theorem Yk.atOwnK {k : Nat} {t e : TypeId} (ht : P.underlying t = some (.slice e)) (he : ∀ w' : World, (sizeOf e).run P w' = .ok k w') {b n g : Nat} {xs : List Value} {e' : TypeId} {v : Value} {x y : Operand} (hx : evalR ρ x = v) (h : w.ownsRow b e' k v n xs) (hg : v.ownBlock = some g) {kd : IntKind} {i : Nat} (hy : evalR ρ y = .int kd (i : Int)) (hi : i < n)
    (hk : K (PQ g (i * k)) w) : Yk P K ((execOp (evalR ρ) ⟨d, .indexAddr t x y, ty, pos, af, gd⟩).run P w) := by
  obtain ⟨-, ⟨-, h0⟩ | ⟨g', cap, cur, rfl, -⟩⟩ := h
  · omega
  · obtain rfl : g' = g := by simpa [Value.ownBlock] using hg
    refine Yk.value (v := PQ g' (i * k)) (w' := w) ?_ hk
    have hE : P.elem t = e := by simp [Program.elem, ht]
    have hr := run_indexAt_slice (P := P) w t ⟨g', 0, none⟩ n cap kd (i : Int) (by rw [hE]; exact ht)
    rw [if_pos (by omega), hE, he] at hr
    unfold execOp
    simp only [hx, hy, Sem.run_bind, hr, Result.andThen_ok, Sem.run_pure]
    simp [Addr.add_lit]
theorem Yk.storeOwnB {b : Nat} {t t' : TypeId} {v : Value} {l : List UInt8} {g i : Nat} {a : UInt8} {x y : Operand} (hx : evalR ρ x = PQ g (i * 1)) (hy : evalR ρ y = B8 a) (h : w.ownsRow b t 1 v l.length (Lib.byteCells l)) (hg : v.ownBlock = some g) (hi : i < l.length) (hinfo : (P.info? t').map (·.size) = some 1)
    (hk : ∀ w', w'.ownsRow b t 1 v (l.set i a).length (Lib.byteCells (l.set i a)) → Grew w w' v v → K undef w') : Yk P K ((execOp (evalR ρ) ⟨d, .store t' x y, ty, pos, af, gd⟩).run P w) := by
  obtain ⟨hxl, ⟨-, h0⟩ | ⟨g', cap, cur, rfl, hb, hc, hn, hm, hs, ht⟩⟩ := h
  · omega
  · obtain rfl : g' = g := by simpa [Value.ownBlock] using hg
    rw [Nat.mul_one] at hx ht
    obtain ⟨T, hcur⟩ : ∃ T, cur = (Lib.byteCells l ++ T).toArray := by
      refine ⟨cur.toList.drop l.length, ?_⟩
      apply Array.toList_inj.1
      rw [List.toList_toArray, ← ht, List.take_append_drop]
    rw [hcur] at hc
    refine Yk.storeC hx hy hc (by rw [List.length_append, Lib.byteCells_length]; omega) hinfo rfl rfl fun w' e1 e2 e3 => hk w' ⟨by rw [Lib.byteCells_length, Nat.mul_one], .inr ⟨g', cap, _, by rw [List.length_set], hb, e1, by rw [List.length_set]; exact hn, hm, ?_, ?_⟩⟩ ⟨e2, fun k hk => .inl hk⟩
    · rw [← hs, hcur, List.size_toArray, List.size_toArray, List.length_set]
    · rw [List.toList_toArray, List.set_append_left _ _ (by rw [Lib.byteCells_length]; exact hi), byteCells_set, Nat.mul_one]
      exact List.take_left' (Lib.byteCells_length _)
end
open Go.RowKit
theorem b8_wrap (n : Nat) : IntKind.u8.wrap ((n : Nat) : Int) = ((n % 256 : Nat) : Int) := by
  simp [IntKind.wrap, IntKind.signed, IntKind.bits]
theorem b8_add (t : TypeId) (a b : UInt8) : Go.binOp .add t (B8 a) (B8 b) = pure (B8 (a + b)) := by
  unfold Go.binOp
  simp only [ne_eq, not_true_eq_false, if_false, Op.intArith]
  rw [← Int.natCast_add, b8_wrap]
  simp [B8, UInt8.toNat_add]
theorem PackNew.older2 {n : Nat} {w w' : World} {v a a' : Value} {p : PackV} (h : PackNew n w v p) (g : Grew w w' a a') (hb : ∀ k, a.ownBlock = some k → k < n) : PackNew n w' v p := by
  have hg := g.by_
  cases e : a.ownBlock with
  | none =>
    rw [e] at hg
    exact h.keep (Ext.of (by simpa using hg))
  | some k =>
    rw [e] at hg
    exact h.older hg (hb k e)
theorem OpenNew.ok {n : Nat} {w : World} {v : Value} {r : Except Nat PackV} {p : PackV} {c : Nat} (h : OpenNew n w v r c) (e : r = .ok p) : c = 0 ∧ PackNew n w v p := by subst e; exact h
theorem PackNew.opt {n : Nat} {w : World} {v : Value} {p : PackV} (h : PackNew n w v p) : PackO w v (some p) := h.at_
theorem get_miss {ps : List Pt} {s : BS} {id : Bs} (h : id ∉ s.ids) : (getQ (some (sortB s.ids, objB ps s)) id).2 = 12 := by
  show (match objB ps s id with | none => _ | some x => _ : (Bs × Nat) × Nat).2 = 12
  rw [show objB ps s id = none from lookup_zip_none _ _ _ h]
theorem take_snoc_dec {l : List Bs} {i : Nat} {id : Bs} (hi : i < l.length) : decide (id ∈ l.take (i + 1)) = (decide (id ∈ l.take i) || decide (l.getD i [] = id)) := by
  have h : id ∈ l.take (i + 1) ↔ id ∈ l.take i ∨ l.getD i [] = id := by
    rw [List.take_succ_eq_append_getElem hi, List.mem_append, List.mem_singleton, List.getD_eq_getElem?_getD, List.getElem?_eq_getElem hi, Option.getD_some]
    exact or_congr Iff.rfl eq_comm
  by_cases q1 : id ∈ l.take i <;> by_cases q2 : l.getD i [] = id <;> simp only [h, q1, q2] <;> decide
open Go.RowKit
set_option maxRecDepth 100000
theorem pk30_pl10 : Plain Tryd.prog 10 := fun _ _ => by kernel_rfl
theorem pk30_pl12 : Plain Tryd.prog 12 := fun _ _ => by kernel_rfl
theorem pk30_pl11 : Plain Tryd.prog 11 := fun _ _ => by kernel_rfl
theorem pk30_pl15 : Plain Tryd.prog 15 := fun _ _ => by kernel_rfl
theorem pk30_pl14 : Plain Tryd.prog 14 := fun _ _ => by kernel_rfl
theorem pk30_pl22 : Plain Tryd.prog 22 := fun _ _ => by kernel_rfl
theorem pk30_ty47 : Tryd.prog.underlying 47 = some (.slice 38) := by kernel_rfl
theorem pk30_szg38 : ∀ w' : World, (sizeOf 38).run Tryd.prog w' = .ok 32 w' := fun _ => by kernel_rfl
theorem pk30_ty38 : Tryd.prog.underlying 38 = some (.array 32 5) := by kernel_rfl
theorem pk30_isz38 : (Tryd.prog.info? 38).map (·.size) = some 32 := by kernel_rfl
theorem pk30_eg38 : Tryd.prog.eqGuardType Tryd.prog.depth 38 = false := by kernel_rfl
theorem pk30_ty5 : Tryd.prog.underlying 5 = some (.int .u8) := by kernel_rfl
theorem pk30_sz5 : ∀ w' : World, (sizeOf 5).run Tryd.prog w' = .ok 1 w' := fun _ => by kernel_rfl
theorem pk30_pl18 : Plain Tryd.prog 18 := fun _ _ => by kernel_rfl
theorem pk30_ty24 : Tryd.prog.underlying 24 = some (.slice 5) := by kernel_rfl
theorem pk30_isz5 : (Tryd.prog.info? 5).map (·.size) = some 1 := by kernel_rfl
theorem pk30_rows1_75 (ao : Option Addr) (n c : Nat) (w : World) : (Instr.buildSlice 75 1 #[(0, .slice ao n c)]).run Tryd.prog w = .ok (.slice (some ⟨w.heap.size, 0, none⟩) 1 1) (w.alloc (.cells #[.slice ao n c] 24)) := by kernel_rfl
theorem pk30_pl17 : Plain Tryd.prog 17 := fun _ _ => by kernel_rfl
theorem pk30_ty4 : Tryd.prog.underlying 4 = some (.bool) := by kernel_rfl
set_option maxHeartbeats 1600000
theorem packApart_walk (w : World) (hG : Laid w) (v : Value) (ps : List Pt) (hr : RG 2 partC w v ps) (hps : PartsOk w ps) (id : Bs) (hid : id.length = 32) :
  Calls Tryd.prog 9 #[v, AB id] w fun e w' => e = .returned (.bool true) ∧ Ext w w' := by
 refine gGm (args := [v, AB id]) Tryd.func9 rfl 129 rfl rfl ?_
 have hE := Ext.refl w
 refine gS (Yk.box (vr (AB id) rfl) fun n2 w3 hn4 hb5 hx6 hs7 => ?_)
 have hb8 := hb5; clear hb5
 have hl9 : n2 < w3.heap.size := by omega
 by_cases hL : LightP ps
 ·rcases hb : bgo ps ps.length with e_ | s
  ·have hbe := build_no hb
   have hz := bgo_e hb
   have hE := hE.trans hx6
   refine gS (Yk.callA1 pk30_pl10 rfl ((light_any _ v ps (hr.keep hE) (hps.keep hE)).mono ?_))
   rintro e w13 ⟨c_, rfl, hlc, hx12⟩
   refine ⟨_, rfl, ?_⟩
   obtain rfl : c_ = true := hlc.2 hL
   have hE := hE.trans hx12
   refine gS (Yk.notB rfl (cF rfl (gS (Yk.callA1 pk30_pl12 rfl ((told_any _ v ps (hr.keep hE) (hps.keep hE) hL).mono ?_)))))
   rintro e w18 ⟨v15, qs, rfl, hr16, hqo, hqq, hx17⟩
   refine ⟨_, rfl, ?_⟩
   have hE := hE.trans hx17
   refine gS (Yk.callA1 pk30_pl11 rfl ((build_told_own _ (hG.keep hE) v15 ps qs hr16 hqo hqq hL).mono ?_))
   rintro e w22 ⟨v19, rfl, ho20, hx21⟩
   refine ⟨_, rfl, ?_⟩
   have hz25 := hE.size
   have hb8 := eb (hx12.trans hx17) hb8
   refine gS (Yk.extract (vs := [v19, NI ((buildP ps).2)]) rfl rfl (gS (Yk.extract (vs := [v19, NI ((buildP ps).2)]) rfl rfl ?_)))
   have hlb0 : ∀ k, Value.ownBlock v19 = some k → k < w22.heap.size := fun k hk => ((ho20).lt k hk).2
   have hE := hE.trans hx21
   refine gS (Yk.callA1 pk30_pl15 rfl ((open_new _ (hG.keep hE) v19 ((buildP ps).1) (RB.ofOwn ho20)).mono ?_))
   rintro e w32 ⟨_, rfl, v28, k29, rfl, hO30, hx31⟩
   refine ⟨_, rfl, ?_⟩
   have hE := hE.trans hx31
   refine gS (Yk.extract (vs := [v28, NI k29]) rfl rfl (gS (Yk.extract (vs := [v28, NI k29]) rfl rfl (gS (Yk.eqI (a := ((buildP ps).2 : Nat)) (b := (0 : Nat)) rfl rfl (k_neq _ _ _ _) (kT (by rw [hbe]; exact hz) (gN rfl rfl rfl rfl (gN rfl rfl rfl rfl (gS (Yk.pickT rfl rfl (cT rfl (gS (Yk.eqI (a := ((buildP ps).2 : Nat)) (b := (0 : Nat)) rfl rfl (k_neq _ _ _ _) (kT (by rw [hbe]; exact hz) (gY rfl rfl (gS (Yk.callA0 pk30_pl14  ((awake11 _ (hG.keep hE)).mono ?_))))))))))))))))))
   rintro e w37 ⟨rfl, hx36⟩
   refine ⟨_, rfl, ?_⟩
   refine gS (Yk.pickT rfl rfl (rt1 rfl (vr (.bool (true)) rfl) ?_))
   have hE := hE.trans hx36
   exact ⟨rfl, hE⟩
  have hb0 := build_yes hb
  have hbl : (buildP ps).1.length ≤ 1099511627000 := by unfold buildP; rw [hb]; have hk := bgo_ok hL _ _ (Nat.le_refl _) hb; have h1 := hk.b; have h2 := behindB_len hk s.b.length; have h3 := hL.1; have h4 := Sha.sum_length (s.b ++ behindB s s.b.length); simp only [List.length_append] at h2 ⊢; omega
  have hop := open_build hL hb
  have hall := (open_ids (buildP ps).1).2
  have hils := (open_ids (buildP ps).1).1
  have hogt := open_get (buildP ps).1
  rw [hop] at hall hils hogt
  have hall : ∀ x ∈ (idsQ (some (sortB s.ids, objB ps s))), x.length = 32 ∧ (getQ (some (sortB s.ids, objB ps s)) x).2 = 0 ∧ Sha.sum (getQ (some (sortB s.ids, objB ps s)) x).1.1 = x := hall
  have hils2 : (idsQ (some (sortB s.ids, objB ps s))).length ≤ (buildP ps).1.length := hils
  have hogt : ∀ x, (getQ (some (sortB s.ids, objB ps s)) x).1.1.length ≤ 4194304 := hogt
  have hE := hE.trans hx6
  refine gS (Yk.callA1 pk30_pl10 rfl ((light_any _ v ps (hr.keep hE) (hps.keep hE)).mono ?_))
  rintro e w41 ⟨c_, rfl, hlc, hx40⟩
  refine ⟨_, rfl, ?_⟩
  obtain rfl : c_ = true := hlc.2 hL
  have hE := hE.trans hx40
  refine gS (Yk.notB rfl (cF rfl (gS (Yk.callA1 pk30_pl12 rfl ((told_any _ v ps (hr.keep hE) (hps.keep hE) hL).mono ?_)))))
  rintro e w46 ⟨v43, qs, rfl, hr44, hqo, hqq, hx45⟩
  refine ⟨_, rfl, ?_⟩
  have hE := hE.trans hx45
  refine gS (Yk.callA1 pk30_pl11 rfl ((build_told_own _ (hG.keep hE) v43 ps qs hr44 hqo hqq hL).mono ?_))
  rintro e w50 ⟨v47, rfl, ho48, hx49⟩
  refine ⟨_, rfl, ?_⟩
  have hA51 := Ext.refl w46
  have hz53 := hE.size
  have hb8 := eb (hx40.trans hx45) hb8
  have hap54 : OB v47 n2 := own_older ho48 (bl hb8)
  refine gS (Yk.extract (vs := [v47, NI ((buildP ps).2)]) rfl rfl (gS (Yk.extract (vs := [v47, NI ((buildP ps).2)]) rfl rfl ?_)))
  have hlb0 : ∀ k, Value.ownBlock v47 = some k → k < w50.heap.size := fun k hk => ((ho48).lt k hk).2
  have hE := hE.trans hx49
  refine gS (Yk.callA1 pk30_pl15 rfl ((open_new _ (hG.keep hE) v47 ((buildP ps).1) (RB.ofOwn ho48)).mono ?_))
  rintro e w60 ⟨_, rfl, v56, k57, rfl, hO58, hx59⟩
  refine ⟨_, rfl, ?_⟩
  have hc0 := (OpenNew.ok hO58 hop).1
  have hpn := (OpenNew.ok hO58 hop).2
  subst hc0
  have hq := PackNew.opt hpn
  refine gS (Yk.extract (vs := [v56, NI 0]) rfl rfl (gS (Yk.extract (vs := [v56, NI 0]) rfl rfl (gS (Yk.eqI (a := ((buildP ps).2 : Nat)) (b := (0 : Nat)) rfl rfl (k_neq _ _ _ _) (kF (fun h => h hb0) (gY rfl rfl (gY rfl rfl (gS (Yk.eqI (a := (0 : Nat)) (b := (0 : Nat)) rfl rfl (k_neq _ _ _ _) (kF (fun h => h rfl) (gS (Yk.pickF rfl rfl (cF rfl (gS (Yk.callA1 pk30_pl22 rfl ((pids_any _ (v56) (some (sortB s.ids, objB ps s)) hq (by show (idsQ (some (sortB s.ids, objB ps s))).length < _; omega)).mono ?_)))))))))))))))))
  rintro e w68 ⟨v65, rfl, ho66, hx67⟩
  refine ⟨_, rfl, ?_⟩
  have hA69 := Ext.refl w60
  have hE := hE.trans hx59
  have hZ1 := hx49.trans hx59
  have hA51 := hA51.trans hZ1
  have hz72 := hE.size
  have hz73 := hA51.size
  have hb8 := eb hZ1 hb8
  have ho48 := Stab.own _ _ _ _ _ _ _ _ ho48 hx59
  have hap75 : ApartV v47 v65 := apartv_new ho48 ho66.2
  have hE := hE.trans hx67
  have hb8 := eb hx67 hb8
  have hA51 := hA51.trans hx67
  have ho48 := Stab.own _ _ _ _ _ _ _ _ ho48 hx67
  have hA69 := hA69.trans hx67
  refine gL (fun (ρ : Slots) (wz : World) => ∃ i : Nat, ∃ th : Bool, ρ 0 = (v : Value) ∧ ρ 1 = (AB id : Value) ∧ ρ 3 = (PQ n2 0 : Value) ∧ ρ 5 = (v47 : Value) ∧ ρ 6 = (NI ((buildP ps).2) : Value) ∧ ρ 7 = (v56 : Value) ∧ ρ 8 = (NI 0 : Value) ∧ ρ 10 = (v65 : Value) ∧ ρ 22 = (.bool (false) : Value) ∧ ρ 39 = (.bool (false) : Value) ∧ ρ 11 = (NI i : Value) ∧ ρ 9 = (.bool (th) : Value) ∧ Ext w wz ∧ wz.heap[n2]? = some (.cells (Lib.byteCells id).toArray 38 (0, 0)) ∧ Ext w46 wz ∧ wz.ownsRow w46.heap.size 5 1 v47 (buildP ps).1.length (Lib.byteCells (buildP ps).1) ∧ Ext w60 wz ∧ OG w60.heap.size 38 32 (Lib.byteCells) wz v65 (idsQ (some (sortB s.ids, objB ps s))) ∧ (i ≤ (idsQ (some (sortB s.ids, objB ps s))).length) ∧ (th = decide (id ∈ (idsQ (some (sortB s.ids, objB ps s))).take i)) ∧ True) (fun ρ _ => (idsQ (some (sortB s.ids, objB ps s))).length - (intOf (ρ 11)).toNat) ⟨0, false, rfl, rfl, rfl, rfl, rfl, rfl, rfl, rfl, rfl, rfl, rfl, rfl, hE, hb8, hA51, ho48, hA69, ho66, Nat.zero_le _, (by simp), trivial⟩ ?_
  clear hE hb8 ho48 ho66
  rintro ρ79 w80 ⟨i, th, T0, T1, T3, T5, T6, T7, T8, T10, T22, T39, T11, T9, hE, hb8, hA51, ho48, hA69, ho66, hil, hth, -⟩
  have q11 := T11
  by_cases hlt : i < (idsQ (some (sortB s.ids, objB ps s))).length
  ·have hal := hall _ (getD_mem (l := (idsQ (some (sortB s.ids, objB ps s)))) [] hlt)
   rcases th with _ | _
   ·by_cases qi : (idsQ (some (sortB s.ids, objB ps s))).getD i [] = id
    ·have hth2 : true = decide (id ∈ (idsQ (some (sortB s.ids, objB ps s))).take (i + 1)) := by rw [take_snoc_dec hlt, decide_eq_true qi, Bool.or_true]
     refine gS (Yk.lenRG pk30_ty47 (RG.of (RG.ofOwn ho66) T10) (gS (Yk.eqI (a := (i : Nat)) (b := (((idsQ (some (sortB s.ids, objB ps s)))).length : Nat)) T11 rfl (k_lss _ _ _ _) (kT (hlt) (cT rfl (gR ?_))))))
     refine wpF_draw [Is (.bool (false)), Is (.bool (false)), Is (v65), Is (NI i), fun x w' => PR (Lib.byteCells (((idsQ (some (sortB s.ids, objB ps s)))).getD (i) ([] : List UInt8))) x w', Is (AB (((idsQ (some (sortB s.ids, objB ps s)))).getD (i) ([] : List UInt8))), Is (AB id), Is (.bool (true)), Is (.bool (true)), Is (.bool (true))] (by kernel_rfl) [53, 54, 55, 56, 57, 58, 59, 60, 61, 9] (by kernel_rfl) (by kernel_rfl) (si4 ⟨(fun _ _ _ h k => PR.keep h k), (si5 trivial)⟩) ?hs7012 ?hQ7012
     case hs7012 =>
      refine ⟨?_, ?_, ?_, ?_, ?_, ?_, ?_, ?_, ?_, ?_, trivial⟩
      ·refine stepN rfl fun σ w1 hC h => ?_
       have e9 := (eqo (h 9 (by decide))).trans T9
       exact Yk.move e9 ⟨Ext.refl _, rfl⟩
      ·refine stepN rfl fun σ w1 hC h => ?_
       have e53 := eqo (h 53 (by decide))
       exact Yk.move e53 ⟨Ext.refl _, rfl⟩
      ·refine stepY 1 false 54 rfl rfl (fun _ _ h => h) fun σ w1 hC h => ?_
       have e10 := (eqo (h 10 (by decide))).trans T10
       exact Yk.move e10 ⟨Ext.refl _, rfl⟩
      ·refine stepY 1 false 54 rfl rfl (fun _ _ h => h) fun σ w1 hC h => ?_
       have e11 := (eqo (h 11 (by decide))).trans T11
       exact Yk.move e11 ⟨Ext.refl _, rfl⟩
      ·refine stepY 1 false 54 rfl rfl (fun _ _ h => h) fun σ w1 hC h => ?_
       have e55 := eqo (h 55 (by decide))
       have e56 := eqo (h 56 (by decide))
       exact Yk.atRG pk30_ty47 pk30_szg38 (by decide) ([] : List UInt8) (RG.of (RG.ofOwn (ho66.keep hC)) e55) e56 (hlt) fun v h => ⟨Ext.refl _, h⟩
      ·refine stepY 1 false 54 rfl rfl (fun _ _ h => h) fun σ w1 hC h => ?_
       have e57 : (fun x w' => PR (Lib.byteCells (((idsQ (some (sortB s.ids, objB ps s)))).getD (i) ([] : List UInt8))) x w') (σ 57) w1 := h 57 (by decide)
       exact Yk.loadPR e57 pk30_ty38 rfl (by rw [RG.elem (RG.ofOwn ho66) ([] : List UInt8) (hlt)]; exact pk30_isz38) ⟨Ext.refl _, rfl⟩
      ·refine stepY 1 false 54 rfl rfl (fun _ _ h => h) fun σ w1 hC h => ?_
       have e3 := (eqo (h 3 (by decide))).trans T3
       exact Yk.loadAll e3 (eb hC hb8) pk30_ty38 rfl (by exact sizeId_of hid) ⟨Ext.refl _, rfl⟩
      ·refine stepY 1 false 54 rfl rfl (fun _ _ h => h) fun σ w1 hC h => ?_
       have e58 := eqo (h 58 (by decide))
       have e59 := eqo (h 59 (by decide))
       exact Yk.eqArr (l1 := (((idsQ (some (sortB s.ids, objB ps s)))).getD (i) ([] : List UInt8))) (l2 := id) pk30_ty38 pk30_ty5 pk30_sz5 pk30_eg38 e58 e59 (hal.1) (hid) ⟨Ext.refl _, (congrArg Value.bool (decide_eq_true (qi)))⟩
      ·refine stepN rfl fun σ w1 hC h => ?_
       have e54 := eqo (h 54 (by decide))
       have e60 := eqo (h 60 (by decide))
       exact Yk.pickF e54 e60 ⟨Ext.refl _, rfl⟩
      ·refine stepN rfl fun σ w1 hC h => ?_
       have e61 := eqo (h 61 (by decide))
       exact Yk.assign e61 ⟨Ext.refl _, rfl⟩
     intro ρ85 w86 hx87 he hf
     obtain ⟨-, -, -, -, -, -, -, -, -, k9, -⟩ := hf
     obtain ⟨T0, T1, T3, T5, T6, T7, T8, T10, T11, T22, T39, T50, -⟩ := he.hold [(0, _), (1, _), (3, _), (5, _), (6, _), (7, _), (8, _), (10, _), (11, _), (22, _), (39, _), (50, .bool (true))] ⟨T0, T1, T3, T5, T6, T7, T8, T10, T11, T22, T39, rfl, trivial⟩ rfl
     clear he
     have T9 : ρ85 9 = .bool (true) := k9
     clear k9
     refine gXm ?_
     have ho66 := ho66.keep hx87
     have hl91 : (Lib.byteCells (((idsQ (some (sortB s.ids, objB ps s)))).getD (i) ([] : List UInt8))).length = 32 := (RG.elem (RG.ofOwn ho66) ([] : List UInt8) (hlt))
     have hA69 := hA69.trans hx87
     refine gS (Yk.atRG pk30_ty47 pk30_szg38 (by decide) ([] : List UInt8) (RG.of (RG.ofOwn ho66) T10) T11 (hlt) fun v89 hp90 => (gS (Yk.loadPR (PR.of hp90 rfl) pk30_ty38 rfl (by rw [hl91]; exact pk30_isz38) (gS (Yk.callA2 pk30_pl18 T7 rfl ((pget_any _ (v56) (some (sortB s.ids, objB ps s)) (hq.keep hA69) (((idsQ (some (sortB s.ids, objB ps s)))).getD (i) ([] : List UInt8)) (bytes_len32 (hl91)) (by have := hogt (((idsQ (some (sortB s.ids, objB ps s)))).getD (i) ([] : List UInt8)); omega)).mono ?_))))))
     rintro e w95 ⟨v92, rfl, ho93, hx94⟩
     refine ⟨_, rfl, ?_⟩
     have hA96 := Ext.refl w86
     have hE := hE.trans hx87
     have hA51 := hA51.trans hx87
     have hz100 := hE.size
     have hz101 := hA51.size
     have hz102 := hA69.size
     have hb8 := eb hx87 hb8
     have hap103 : OB v92 n2 := own_older ho93 (bl hb8)
     have ho48 := Stab.own _ _ _ _ _ _ _ _ ho48 hx87
     have hap105 : ApartV v92 v47 := apartv_new' ho48 ho93
     have hap107 : ApartV v92 v65 := apartv_new' ho66.2 ho93
     refine gS (Yk.extract (vs := [v92, NI ((getQ (some (sortB s.ids, objB ps s)) (((idsQ (some (sortB s.ids, objB ps s)))).getD (i) ([] : List UInt8))).2)]) rfl rfl (gS (Yk.extract (vs := [v92, NI ((getQ (some (sortB s.ids, objB ps s)) (((idsQ (some (sortB s.ids, objB ps s)))).getD (i) ([] : List UInt8))).2)]) rfl rfl ?_)))
     clear hp90
     have hE := hE.trans hx94
     have hb8 := eb hx94 hb8
     have hA51 := hA51.trans hx94
     have ho48 := Stab.own _ _ _ _ _ _ _ _ ho48 hx94
     have hA69 := hA69.trans hx94
     have ho66 := ho66.keep hx94
     have hA96 := hA96.trans hx94
     refine gL (fun (ρ : Slots) (wz : World) => ∃ k : Nat, ∃ cl : List UInt8, ∃ vc : Value, ρ 0 = (v : Value) ∧ ρ 1 = (AB id : Value) ∧ ρ 3 = (PQ n2 0 : Value) ∧ ρ 5 = (v47 : Value) ∧ ρ 6 = (NI ((buildP ps).2) : Value) ∧ ρ 7 = (v56 : Value) ∧ ρ 8 = (NI 0 : Value) ∧ ρ 9 = (.bool (true) : Value) ∧ ρ 10 = (v65 : Value) ∧ ρ 11 = (NI i : Value) ∧ ρ 22 = (.bool (false) : Value) ∧ ρ 39 = (.bool (false) : Value) ∧ ρ 50 = (.bool (true) : Value) ∧ ρ 14 = (NI k : Value) ∧ ρ 12 = (vc : Value) ∧ Ext w wz ∧ wz.heap[n2]? = some (.cells (Lib.byteCells id).toArray 38 (0, 0)) ∧ Ext w46 wz ∧ wz.ownsRow w46.heap.size 5 1 v47 (buildP ps).1.length (Lib.byteCells (buildP ps).1) ∧ Ext w60 wz ∧ OG w60.heap.size 38 32 (Lib.byteCells) wz v65 (idsQ (some (sortB s.ids, objB ps s))) ∧ Ext w86 wz ∧ wz.ownsRow w86.heap.size 5 1 vc (cl : List UInt8).length (Lib.byteCells (cl)) ∧ (k ≤ cl.length) ∧ (cl.length ≤ 4194304) ∧ (OB vc n2) ∧ (ApartV vc v47) ∧ (ApartV vc v65) ∧ True) (fun ρ _ => 4194304 - (intOf (ρ 14)).toNat) ⟨0, (getQ (some (sortB s.ids, objB ps s)) ((idsQ (some (sortB s.ids, objB ps s))).getD (i) [])).1.1, v92, T0, T1, T3, T5, T6, T7, T8, T9, T10, T11, T22, T39, T50, rfl, rfl, hE, hb8, hA51, ho48, hA69, ho66, hA96, own_eq ho93 (rfl), Nat.zero_le _, hogt _, hap103, hap105, hap107, trivial⟩ ?_
     clear ho93
     clear hE hb8 hA51 ho48 hA69 ho66
     rintro ρ110 w111 ⟨k, cl, vc, T0, T1, T3, T5, T6, T7, T8, T9, T10, T11, T22, T39, T50, T14, T12, hE, hb8, hA51, ho48, hA69, ho66, hA96, hr_vc, hk, hcl, hap_vc_n2, hap_vc_v47, hap_vc_v65, -⟩
     have q14 := T14
     by_cases hl2 : k < cl.length
     ·refine Exists.elim (own_block hr_vc hl2) fun gc hgc => (gS (Yk.lenRB pk30_ty24 (RB.of (RB.ofOwn hr_vc) T12) (gS (Yk.eqI (a := (k : Nat)) (b := (cl.length : Nat)) T14 rfl (k_lss _ _ _ _) (kT (hl2) (cT rfl (gS (Yk.atRB (l := cl) (i := k) pk30_ty24 pk30_sz5 (RB.of (RB.ofOwn hr_vc) T12) T14 (hl2) fun v115 hp116 => (gS (Yk.loadC pk30_ty5 rfl (PCell.of hp116 rfl) (gS (Yk.bin (xv := B8 (cl.getD (k) 0)) (yv := B8 1) rfl rfl rfl (b8_add _ _ _) (gS (Yk.atOwnK (k := 1) (i := k) pk30_ty24 pk30_sz5 T12 hr_vc hgc T14 (hl2) (gS (Yk.storeOwnB (i := k) (l := cl) (a := (cl.getD (k) 0) + 1) rfl rfl hr_vc hgc (hl2) pk30_isz5 fun w117 ho118 hg119 => ?_))))))))))))))))
      have hap120 : OB vc n2 := apart_grew hg119 hap_vc_n2 (bl hb8)
      have hap121 : ApartV vc v47 := apartv_grew hg119 hap_vc_v47 ho48
      have hap123 : ApartV vc v65 := apartv_grew hg119 hap_vc_v65 ho66.2
      have hE := ext_grew hE hg119 hr_vc hz100
      have hb8 := blk_grew hb8 hg119 hap120
      have hA51 := ext_grew hA51 hg119 hr_vc hz101
      have ho48 := own_grew ho48 hg119 hap121
      have hA69 := ext_grew hA69 hg119 hr_vc hz102
      have ho66 := og_grew ho66 hg119 hap123
      have hA96 := ext_grew hA96 hg119 hr_vc (Nat.le_refl _)
      clear hp116
      clear hr_vc
      refine gS (Yk.bin (xv := NI k) (yv := NI 1) T14 rfl rfl (i64_add _ _ _ (by omega)) (gK (And.intro ⟨k + 1, (cl).set k ((cl.getD (k) 0) + 1), vc, T0, T1, T3, T5, T6, T7, T8, T9, T10, T11, T22, T39, T50, rfl, T12, hE, hb8, hA51, ho48, hA69, ho66, hA96, own_eq ho118 (rfl), by rw [List.length_set]; omega, by rw [List.length_set]; exact hcl, hap120, hap121, hap123, trivial⟩ ?_)))
      show 4194304 - (intOf (NI ((k) + (1)))).toNat < 4194304 - (intOf (ρ110 14)).toNat
      rw [q14]
      simp only [intOf, Int.toNat_natCast]; omega
     refine gS (Yk.lenRB pk30_ty24 (RB.of (RB.ofOwn hr_vc) T12) (gS (Yk.eqI (a := (k : Nat)) (b := (cl.length : Nat)) T14 rfl (k_lss _ _ _ _) (kF (hl2) (cF rfl ?_)))))
     have hl130 : (Lib.byteCells (((idsQ (some (sortB s.ids, objB ps s)))).getD (i) ([] : List UInt8))).length = 32 := (RG.elem (RG.ofOwn ho66) ([] : List UInt8) (hlt))
     refine gS (Yk.atRG pk30_ty47 pk30_szg38 (by decide) ([] : List UInt8) (RG.of (RG.ofOwn ho66) T10) T11 (hlt) fun v128 hp129 => (gS (Yk.loadPR (PR.of hp129 rfl) pk30_ty38 rfl (by rw [hl130]; exact pk30_isz38) (gS (Yk.callA2 pk30_pl18 T7 rfl ((pget_any _ (v56) (some (sortB s.ids, objB ps s)) (hq.keep hA69) (((idsQ (some (sortB s.ids, objB ps s)))).getD (i) ([] : List UInt8)) (bytes_len32 (hl130)) (by have := hogt (((idsQ (some (sortB s.ids, objB ps s)))).getD (i) ([] : List UInt8)); omega)).mono ?_))))))
     rintro e w134 ⟨v131, rfl, ho132, hx133⟩
     refine ⟨_, rfl, ?_⟩
     have hz140 := hE.size
     have hz141 := hA51.size
     have hz142 := hA69.size
     have hz143 := hA96.size
     refine gS (Yk.extract (vs := [v131, NI ((getQ (some (sortB s.ids, objB ps s)) (((idsQ (some (sortB s.ids, objB ps s)))).getD (i) ([] : List UInt8))).2)]) rfl rfl (gS (Yk.extract (vs := [v131, NI ((getQ (some (sortB s.ids, objB ps s)) (((idsQ (some (sortB s.ids, objB ps s)))).getD (i) ([] : List UInt8))).2)]) rfl rfl ?_)))
     clear hp129
     refine gM1 [0, 3, 4, 5, 6, 1, 2, 7] [1, 2] [5] [6] fun w152 hx153 => ?_
     have hA154 := Ext.refl w152
     refine meb0 hA154 ?_
     have hZ2 := hx133.trans hx153
     have ho66 := ho66.keep hZ2
     have hl157 : (Lib.byteCells (((idsQ (some (sortB s.ids, objB ps s)))).getD (i) ([] : List UInt8))).length = 32 := (RG.elem (RG.ofOwn ho66) ([] : List UInt8) (hlt))
     have ho132 := Stab.own _ _ _ _ _ _ _ _ ho132 hx153
     refine yA (Yk.atRG pk30_ty47 pk30_szg38 (by decide) ([] : List UInt8) (RG.of (RG.ofOwn ho66) T10) T11 (hlt) fun v155 hp156 => (yf (fun _ ⟨hZ, _⟩ => Yk.loadPR (PR.of (PR.keep hp156 hZ) rfl) pk30_ty38 rfl (by rw [hl157]; exact pk30_isz38) zz) (yE (Yk.rows1 pk30_rows1_75 (RB.of (RB.ofOwn ho132) (vr v131 rfl)) fun v158 w159 hr160 hx161 => ?_))))
     have hp156 := PR.keep hp156 hx161
     have hA154 := hA154.trans hx161
     refine ⟨hA154, ?_⟩
     have hA162 := Ext.refl w159
     have hZ3 := hZ2.trans hx161
     have hE := hE.trans hZ3
     refine yE (Yk.callA1 pk30_pl17 rfl ((sum_one _ (hG.keep hE) v158 ((getQ (some (sortB s.ids, objB ps s)) (((idsQ (some (sortB s.ids, objB ps s)))).getD (i) ([] : List UInt8))).1.1) hr160 (by have := hogt ((idsQ (some (sortB s.ids, objB ps s))).getD (i) []); omega)).mono ?_))
     rintro e w164 ⟨rfl, hx163⟩
     refine ⟨_, rfl, ?_⟩
     have hp156 := PR.keep hp156 hx163
     have hA162 := hA162.trans hx163
     refine ⟨hA162, ?_⟩
     refine ys (Yk.neArr (l1 := (Sha.sum ((getQ (some (sortB s.ids, objB ps s)) (((idsQ (some (sortB s.ids, objB ps s)))).getD (i) ([] : List UInt8))).1.1))) (l2 := (((idsQ (some (sortB s.ids, objB ps s)))).getD (i) ([] : List UInt8))) pk30_ty38 pk30_ty5 pk30_sz5 pk30_eg38 rfl rfl ((Sha.sum_length _)) (hal.1) zz) (kF (fun h => h hal.2.2) ?_)
     clear hp156
     have hZ4 := hZ3.trans hx163
     have hb8 := eb hZ4 hb8
     have hA51 := hA51.trans hZ4
     have ho48 := Stab.own _ _ _ _ _ _ _ _ ho48 hZ4
     have hA69 := hA69.trans hZ4
     have hZ5 := hx161.trans hx163
     have ho66 := ho66.keep hZ5
     have hE := hE.trans hx163
     refine cF rfl (gS (Yk.bin (xv := NI i) (yv := NI 1) T11 rfl rfl (i64_add _ _ _ (by omega)) (gK (And.intro ⟨i + 1, true, T0, T1, T3, T5, T6, T7, T8, T10, T22, T39, rfl, T9, hE, hb8, hA51, ho48, hA69, ho66, by omega, hth2, trivial⟩ ?_))))
     show (idsQ (some (sortB s.ids, objB ps s))).length - (intOf (NI ((i) + (1)))).toNat < (idsQ (some (sortB s.ids, objB ps s))).length - (intOf (ρ79 11)).toNat
     rw [q11]
     simp only [intOf, Int.toNat_natCast]; omega
    have hth2 : false = decide (id ∈ (idsQ (some (sortB s.ids, objB ps s))).take (i + 1)) := by rw [take_snoc_dec hlt, ← hth, decide_eq_false qi]; rfl
    refine gS (Yk.lenRG pk30_ty47 (RG.of (RG.ofOwn ho66) T10) (gS (Yk.eqI (a := (i : Nat)) (b := (((idsQ (some (sortB s.ids, objB ps s)))).length : Nat)) T11 rfl (k_lss _ _ _ _) (kT (hlt) (cT rfl (gR ?_))))))
    refine wpF_draw [Is (.bool (false)), Is (.bool (false)), Is (v65), Is (NI i), fun x w' => PR (Lib.byteCells (((idsQ (some (sortB s.ids, objB ps s)))).getD (i) ([] : List UInt8))) x w', Is (AB (((idsQ (some (sortB s.ids, objB ps s)))).getD (i) ([] : List UInt8))), Is (AB id), Is (.bool (false)), Is (.bool (false)), Is (.bool (false))] (by kernel_rfl) [53, 54, 55, 56, 57, 58, 59, 60, 61, 9] (by kernel_rfl) (by kernel_rfl) (si4 ⟨(fun _ _ _ h k => PR.keep h k), (si5 trivial)⟩) ?hs8012 ?hQ8012
    case hs8012 =>
     refine ⟨?_, ?_, ?_, ?_, ?_, ?_, ?_, ?_, ?_, ?_, trivial⟩
     ·refine stepN rfl fun σ w1 hC h => ?_
      have e9 := (eqo (h 9 (by decide))).trans T9
      exact Yk.move e9 ⟨Ext.refl _, rfl⟩
     ·refine stepN rfl fun σ w1 hC h => ?_
      have e53 := eqo (h 53 (by decide))
      exact Yk.move e53 ⟨Ext.refl _, rfl⟩
     ·refine stepY 1 false 54 rfl rfl (fun _ _ h => h) fun σ w1 hC h => ?_
      have e10 := (eqo (h 10 (by decide))).trans T10
      exact Yk.move e10 ⟨Ext.refl _, rfl⟩
     ·refine stepY 1 false 54 rfl rfl (fun _ _ h => h) fun σ w1 hC h => ?_
      have e11 := (eqo (h 11 (by decide))).trans T11
      exact Yk.move e11 ⟨Ext.refl _, rfl⟩
     ·refine stepY 1 false 54 rfl rfl (fun _ _ h => h) fun σ w1 hC h => ?_
      have e55 := eqo (h 55 (by decide))
      have e56 := eqo (h 56 (by decide))
      exact Yk.atRG pk30_ty47 pk30_szg38 (by decide) ([] : List UInt8) (RG.of (RG.ofOwn (ho66.keep hC)) e55) e56 (hlt) fun v h => ⟨Ext.refl _, h⟩
     ·refine stepY 1 false 54 rfl rfl (fun _ _ h => h) fun σ w1 hC h => ?_
      have e57 : (fun x w' => PR (Lib.byteCells (((idsQ (some (sortB s.ids, objB ps s)))).getD (i) ([] : List UInt8))) x w') (σ 57) w1 := h 57 (by decide)
      exact Yk.loadPR e57 pk30_ty38 rfl (by rw [RG.elem (RG.ofOwn ho66) ([] : List UInt8) (hlt)]; exact pk30_isz38) ⟨Ext.refl _, rfl⟩
     ·refine stepY 1 false 54 rfl rfl (fun _ _ h => h) fun σ w1 hC h => ?_
      have e3 := (eqo (h 3 (by decide))).trans T3
      exact Yk.loadAll e3 (eb hC hb8) pk30_ty38 rfl (by exact sizeId_of hid) ⟨Ext.refl _, rfl⟩
     ·refine stepY 1 false 54 rfl rfl (fun _ _ h => h) fun σ w1 hC h => ?_
      have e58 := eqo (h 58 (by decide))
      have e59 := eqo (h 59 (by decide))
      exact Yk.eqArr (l1 := (((idsQ (some (sortB s.ids, objB ps s)))).getD (i) ([] : List UInt8))) (l2 := id) pk30_ty38 pk30_ty5 pk30_sz5 pk30_eg38 e58 e59 (hal.1) (hid) ⟨Ext.refl _, (congrArg Value.bool (decide_eq_false (qi)))⟩
     ·refine stepN rfl fun σ w1 hC h => ?_
      have e54 := eqo (h 54 (by decide))
      have e60 := eqo (h 60 (by decide))
      exact Yk.pickF e54 e60 ⟨Ext.refl _, rfl⟩
     ·refine stepN rfl fun σ w1 hC h => ?_
      have e61 := eqo (h 61 (by decide))
      exact Yk.assign e61 ⟨Ext.refl _, rfl⟩
    intro ρ170 w171 hx172 he hf
    obtain ⟨-, -, -, -, -, -, -, -, -, k9, -⟩ := hf
    obtain ⟨T0, T1, T3, T5, T6, T7, T8, T10, T11, T22, T39, T50, -⟩ := he.hold [(0, _), (1, _), (3, _), (5, _), (6, _), (7, _), (8, _), (10, _), (11, _), (22, _), (39, _), (50, .bool (true))] ⟨T0, T1, T3, T5, T6, T7, T8, T10, T11, T22, T39, rfl, trivial⟩ rfl
    clear he
    have T9 : ρ170 9 = .bool (false) := k9
    clear k9
    refine gXm ?_
    have ho66 := ho66.keep hx172
    have hl176 : (Lib.byteCells (((idsQ (some (sortB s.ids, objB ps s)))).getD (i) ([] : List UInt8))).length = 32 := (RG.elem (RG.ofOwn ho66) ([] : List UInt8) (hlt))
    have hA69 := hA69.trans hx172
    refine gS (Yk.atRG pk30_ty47 pk30_szg38 (by decide) ([] : List UInt8) (RG.of (RG.ofOwn ho66) T10) T11 (hlt) fun v174 hp175 => (gS (Yk.loadPR (PR.of hp175 rfl) pk30_ty38 rfl (by rw [hl176]; exact pk30_isz38) (gS (Yk.callA2 pk30_pl18 T7 rfl ((pget_any _ (v56) (some (sortB s.ids, objB ps s)) (hq.keep hA69) (((idsQ (some (sortB s.ids, objB ps s)))).getD (i) ([] : List UInt8)) (bytes_len32 (hl176)) (by have := hogt (((idsQ (some (sortB s.ids, objB ps s)))).getD (i) ([] : List UInt8)); omega)).mono ?_))))))
    rintro e w180 ⟨v177, rfl, ho178, hx179⟩
    refine ⟨_, rfl, ?_⟩
    have hA181 := Ext.refl w171
    have hE := hE.trans hx172
    have hA51 := hA51.trans hx172
    have hz185 := hE.size
    have hz186 := hA51.size
    have hz187 := hA69.size
    have hb8 := eb hx172 hb8
    have hap188 : OB v177 n2 := own_older ho178 (bl hb8)
    have ho48 := Stab.own _ _ _ _ _ _ _ _ ho48 hx172
    have hap190 : ApartV v177 v47 := apartv_new' ho48 ho178
    have hap192 : ApartV v177 v65 := apartv_new' ho66.2 ho178
    refine gS (Yk.extract (vs := [v177, NI ((getQ (some (sortB s.ids, objB ps s)) (((idsQ (some (sortB s.ids, objB ps s)))).getD (i) ([] : List UInt8))).2)]) rfl rfl (gS (Yk.extract (vs := [v177, NI ((getQ (some (sortB s.ids, objB ps s)) (((idsQ (some (sortB s.ids, objB ps s)))).getD (i) ([] : List UInt8))).2)]) rfl rfl ?_)))
    clear hp175
    have hE := hE.trans hx179
    have hb8 := eb hx179 hb8
    have hA51 := hA51.trans hx179
    have ho48 := Stab.own _ _ _ _ _ _ _ _ ho48 hx179
    have hA69 := hA69.trans hx179
    have ho66 := ho66.keep hx179
    have hA181 := hA181.trans hx179
    refine gL (fun (ρ : Slots) (wz : World) => ∃ k : Nat, ∃ cl : List UInt8, ∃ vc : Value, ρ 0 = (v : Value) ∧ ρ 1 = (AB id : Value) ∧ ρ 3 = (PQ n2 0 : Value) ∧ ρ 5 = (v47 : Value) ∧ ρ 6 = (NI ((buildP ps).2) : Value) ∧ ρ 7 = (v56 : Value) ∧ ρ 8 = (NI 0 : Value) ∧ ρ 9 = (.bool (false) : Value) ∧ ρ 10 = (v65 : Value) ∧ ρ 11 = (NI i : Value) ∧ ρ 22 = (.bool (false) : Value) ∧ ρ 39 = (.bool (false) : Value) ∧ ρ 50 = (.bool (true) : Value) ∧ ρ 14 = (NI k : Value) ∧ ρ 12 = (vc : Value) ∧ Ext w wz ∧ wz.heap[n2]? = some (.cells (Lib.byteCells id).toArray 38 (0, 0)) ∧ Ext w46 wz ∧ wz.ownsRow w46.heap.size 5 1 v47 (buildP ps).1.length (Lib.byteCells (buildP ps).1) ∧ Ext w60 wz ∧ OG w60.heap.size 38 32 (Lib.byteCells) wz v65 (idsQ (some (sortB s.ids, objB ps s))) ∧ Ext w171 wz ∧ wz.ownsRow w171.heap.size 5 1 vc (cl : List UInt8).length (Lib.byteCells (cl)) ∧ (k ≤ cl.length) ∧ (cl.length ≤ 4194304) ∧ (OB vc n2) ∧ (ApartV vc v47) ∧ (ApartV vc v65) ∧ True) (fun ρ _ => 4194304 - (intOf (ρ 14)).toNat) ⟨0, (getQ (some (sortB s.ids, objB ps s)) ((idsQ (some (sortB s.ids, objB ps s))).getD (i) [])).1.1, v177, T0, T1, T3, T5, T6, T7, T8, T9, T10, T11, T22, T39, T50, rfl, rfl, hE, hb8, hA51, ho48, hA69, ho66, hA181, own_eq ho178 (rfl), Nat.zero_le _, hogt _, hap188, hap190, hap192, trivial⟩ ?_
    clear ho178
    clear hE hb8 hA51 ho48 hA69 ho66
    rintro ρ195 w196 ⟨k, cl, vc, T0, T1, T3, T5, T6, T7, T8, T9, T10, T11, T22, T39, T50, T14, T12, hE, hb8, hA51, ho48, hA69, ho66, hA181, hr_vc, hk, hcl, hap_vc_n2, hap_vc_v47, hap_vc_v65, -⟩
    have q14 := T14
    by_cases hl2 : k < cl.length
    ·refine Exists.elim (own_block hr_vc hl2) fun gc hgc => (gS (Yk.lenRB pk30_ty24 (RB.of (RB.ofOwn hr_vc) T12) (gS (Yk.eqI (a := (k : Nat)) (b := (cl.length : Nat)) T14 rfl (k_lss _ _ _ _) (kT (hl2) (cT rfl (gS (Yk.atRB (l := cl) (i := k) pk30_ty24 pk30_sz5 (RB.of (RB.ofOwn hr_vc) T12) T14 (hl2) fun v200 hp201 => (gS (Yk.loadC pk30_ty5 rfl (PCell.of hp201 rfl) (gS (Yk.bin (xv := B8 (cl.getD (k) 0)) (yv := B8 1) rfl rfl rfl (b8_add _ _ _) (gS (Yk.atOwnK (k := 1) (i := k) pk30_ty24 pk30_sz5 T12 hr_vc hgc T14 (hl2) (gS (Yk.storeOwnB (i := k) (l := cl) (a := (cl.getD (k) 0) + 1) rfl rfl hr_vc hgc (hl2) pk30_isz5 fun w202 ho203 hg204 => ?_))))))))))))))))
     have hap205 : OB vc n2 := apart_grew hg204 hap_vc_n2 (bl hb8)
     have hap206 : ApartV vc v47 := apartv_grew hg204 hap_vc_v47 ho48
     have hap208 : ApartV vc v65 := apartv_grew hg204 hap_vc_v65 ho66.2
     have hE := ext_grew hE hg204 hr_vc hz185
     have hb8 := blk_grew hb8 hg204 hap205
     have hA51 := ext_grew hA51 hg204 hr_vc hz186
     have ho48 := own_grew ho48 hg204 hap206
     have hA69 := ext_grew hA69 hg204 hr_vc hz187
     have ho66 := og_grew ho66 hg204 hap208
     have hA181 := ext_grew hA181 hg204 hr_vc (Nat.le_refl _)
     clear hp201
     clear hr_vc
     refine gS (Yk.bin (xv := NI k) (yv := NI 1) T14 rfl rfl (i64_add _ _ _ (by omega)) (gK (And.intro ⟨k + 1, (cl).set k ((cl.getD (k) 0) + 1), vc, T0, T1, T3, T5, T6, T7, T8, T9, T10, T11, T22, T39, T50, rfl, T12, hE, hb8, hA51, ho48, hA69, ho66, hA181, own_eq ho203 (rfl), by rw [List.length_set]; omega, by rw [List.length_set]; exact hcl, hap205, hap206, hap208, trivial⟩ ?_)))
     show 4194304 - (intOf (NI ((k) + (1)))).toNat < 4194304 - (intOf (ρ195 14)).toNat
     rw [q14]
     simp only [intOf, Int.toNat_natCast]; omega
    refine gS (Yk.lenRB pk30_ty24 (RB.of (RB.ofOwn hr_vc) T12) (gS (Yk.eqI (a := (k : Nat)) (b := (cl.length : Nat)) T14 rfl (k_lss _ _ _ _) (kF (hl2) (cF rfl ?_)))))
    have hl215 : (Lib.byteCells (((idsQ (some (sortB s.ids, objB ps s)))).getD (i) ([] : List UInt8))).length = 32 := (RG.elem (RG.ofOwn ho66) ([] : List UInt8) (hlt))
    refine gS (Yk.atRG pk30_ty47 pk30_szg38 (by decide) ([] : List UInt8) (RG.of (RG.ofOwn ho66) T10) T11 (hlt) fun v213 hp214 => (gS (Yk.loadPR (PR.of hp214 rfl) pk30_ty38 rfl (by rw [hl215]; exact pk30_isz38) (gS (Yk.callA2 pk30_pl18 T7 rfl ((pget_any _ (v56) (some (sortB s.ids, objB ps s)) (hq.keep hA69) (((idsQ (some (sortB s.ids, objB ps s)))).getD (i) ([] : List UInt8)) (bytes_len32 (hl215)) (by have := hogt (((idsQ (some (sortB s.ids, objB ps s)))).getD (i) ([] : List UInt8)); omega)).mono ?_))))))
    rintro e w219 ⟨v216, rfl, ho217, hx218⟩
    refine ⟨_, rfl, ?_⟩
    have hz225 := hE.size
    have hz226 := hA51.size
    have hz227 := hA69.size
    have hz228 := hA181.size
    refine gS (Yk.extract (vs := [v216, NI ((getQ (some (sortB s.ids, objB ps s)) (((idsQ (some (sortB s.ids, objB ps s)))).getD (i) ([] : List UInt8))).2)]) rfl rfl (gS (Yk.extract (vs := [v216, NI ((getQ (some (sortB s.ids, objB ps s)) (((idsQ (some (sortB s.ids, objB ps s)))).getD (i) ([] : List UInt8))).2)]) rfl rfl ?_)))
    clear hp214
    refine gM1 [0, 3, 4, 5, 6, 1, 2, 7] [1, 2] [5] [6] fun w237 hx238 => ?_
    have hA239 := Ext.refl w237
    refine meb0 hA239 ?_
    have hZ6 := hx218.trans hx238
    have ho66 := ho66.keep hZ6
    have hl242 : (Lib.byteCells (((idsQ (some (sortB s.ids, objB ps s)))).getD (i) ([] : List UInt8))).length = 32 := (RG.elem (RG.ofOwn ho66) ([] : List UInt8) (hlt))
    have ho217 := Stab.own _ _ _ _ _ _ _ _ ho217 hx238
    refine yA (Yk.atRG pk30_ty47 pk30_szg38 (by decide) ([] : List UInt8) (RG.of (RG.ofOwn ho66) T10) T11 (hlt) fun v240 hp241 => (yf (fun _ ⟨hZ, _⟩ => Yk.loadPR (PR.of (PR.keep hp241 hZ) rfl) pk30_ty38 rfl (by rw [hl242]; exact pk30_isz38) zz) (yE (Yk.rows1 pk30_rows1_75 (RB.of (RB.ofOwn ho217) (vr v216 rfl)) fun v243 w244 hr245 hx246 => ?_))))
    have hp241 := PR.keep hp241 hx246
    have hA239 := hA239.trans hx246
    refine ⟨hA239, ?_⟩
    have hA247 := Ext.refl w244
    have hZ7 := hZ6.trans hx246
    have hE := hE.trans hZ7
    refine yE (Yk.callA1 pk30_pl17 rfl ((sum_one _ (hG.keep hE) v243 ((getQ (some (sortB s.ids, objB ps s)) (((idsQ (some (sortB s.ids, objB ps s)))).getD (i) ([] : List UInt8))).1.1) hr245 (by have := hogt ((idsQ (some (sortB s.ids, objB ps s))).getD (i) []); omega)).mono ?_))
    rintro e w249 ⟨rfl, hx248⟩
    refine ⟨_, rfl, ?_⟩
    have hp241 := PR.keep hp241 hx248
    have hA247 := hA247.trans hx248
    refine ⟨hA247, ?_⟩
    refine ys (Yk.neArr (l1 := (Sha.sum ((getQ (some (sortB s.ids, objB ps s)) (((idsQ (some (sortB s.ids, objB ps s)))).getD (i) ([] : List UInt8))).1.1))) (l2 := (((idsQ (some (sortB s.ids, objB ps s)))).getD (i) ([] : List UInt8))) pk30_ty38 pk30_ty5 pk30_sz5 pk30_eg38 rfl rfl ((Sha.sum_length _)) (hal.1) zz) (kF (fun h => h hal.2.2) ?_)
    clear hp241
    have hZ8 := hZ7.trans hx248
    have hb8 := eb hZ8 hb8
    have hA51 := hA51.trans hZ8
    have ho48 := Stab.own _ _ _ _ _ _ _ _ ho48 hZ8
    have hA69 := hA69.trans hZ8
    have hZ9 := hx246.trans hx248
    have ho66 := ho66.keep hZ9
    have hE := hE.trans hx248
    refine cF rfl (gS (Yk.bin (xv := NI i) (yv := NI 1) T11 rfl rfl (i64_add _ _ _ (by omega)) (gK (And.intro ⟨i + 1, false, T0, T1, T3, T5, T6, T7, T8, T10, T22, T39, rfl, T9, hE, hb8, hA51, ho48, hA69, ho66, by omega, hth2, trivial⟩ ?_))))
    show (idsQ (some (sortB s.ids, objB ps s))).length - (intOf (NI ((i) + (1)))).toNat < (idsQ (some (sortB s.ids, objB ps s))).length - (intOf (ρ79 11)).toNat
    rw [q11]
    simp only [intOf, Int.toNat_natCast]; omega
   have hth2 : true = decide (id ∈ (idsQ (some (sortB s.ids, objB ps s))).take (i + 1)) := by rw [take_snoc_dec hlt, ← hth]; rfl
   refine gS (Yk.lenRG pk30_ty47 (RG.of (RG.ofOwn ho66) T10) (gS (Yk.eqI (a := (i : Nat)) (b := (((idsQ (some (sortB s.ids, objB ps s)))).length : Nat)) T11 rfl (k_lss _ _ _ _) (kT (hlt) (cT rfl (gR ?_))))))
   refine wpF_draw [Is (.bool (true)), Is (.bool (true)), Is undef, Is undef, Is undef, Is undef, Is undef, Is undef, Is (.bool (true)), Is (.bool (true))] (by kernel_rfl) [53, 54, 55, 56, 57, 58, 59, 60, 61, 9] (by kernel_rfl) (by kernel_rfl) (si10 trivial) ?hs9012 ?hQ9012
   case hs9012 =>
    refine ⟨?_, ?_, ?_, ?_, ?_, ?_, ?_, ?_, ?_, ?_, trivial⟩
    ·refine stepN rfl fun σ w1 hC h => ?_
     have e9 := (eqo (h 9 (by decide))).trans T9
     exact Yk.move e9 ⟨Ext.refl _, rfl⟩
    ·refine stepN rfl fun σ w1 hC h => ?_
     have e53 := eqo (h 53 (by decide))
     exact Yk.move e53 ⟨Ext.refl _, rfl⟩
    ·refine stepX 1 false 54 rfl rfl (fun x _ (h : x = .bool true) => by rw [h]; intro h; cases h) fun _ => rfl
    ·refine stepX 1 false 54 rfl rfl (fun x _ (h : x = .bool true) => by rw [h]; intro h; cases h) fun _ => rfl
    ·refine stepX 1 false 54 rfl rfl (fun x _ (h : x = .bool true) => by rw [h]; intro h; cases h) fun _ => rfl
    ·refine stepX 1 false 54 rfl rfl (fun x _ (h : x = .bool true) => by rw [h]; intro h; cases h) fun _ => rfl
    ·refine stepX 1 false 54 rfl rfl (fun x _ (h : x = .bool true) => by rw [h]; intro h; cases h) fun _ => rfl
    ·refine stepX 1 false 54 rfl rfl (fun x _ (h : x = .bool true) => by rw [h]; intro h; cases h) fun _ => rfl
    ·refine stepN rfl fun σ w1 hC h => ?_
     have e54 := eqo (h 54 (by decide))
     exact Yk.pickT e54 (vr (.bool (true)) rfl) ⟨Ext.refl _, rfl⟩
    ·refine stepN rfl fun σ w1 hC h => ?_
     have e61 := eqo (h 61 (by decide))
     exact Yk.assign e61 ⟨Ext.refl _, rfl⟩
   intro ρ255 w256 hx257 he hf
   obtain ⟨-, -, -, -, -, -, -, -, -, k9, -⟩ := hf
   obtain ⟨T0, T1, T3, T5, T6, T7, T8, T10, T11, T22, T39, T50, -⟩ := he.hold [(0, _), (1, _), (3, _), (5, _), (6, _), (7, _), (8, _), (10, _), (11, _), (22, _), (39, _), (50, .bool (true))] ⟨T0, T1, T3, T5, T6, T7, T8, T10, T11, T22, T39, rfl, trivial⟩ rfl
   clear he
   have T9 : ρ255 9 = .bool (true) := k9
   clear k9
   refine gXm ?_
   have ho66 := ho66.keep hx257
   have hl261 : (Lib.byteCells (((idsQ (some (sortB s.ids, objB ps s)))).getD (i) ([] : List UInt8))).length = 32 := (RG.elem (RG.ofOwn ho66) ([] : List UInt8) (hlt))
   have hA69 := hA69.trans hx257
   refine gS (Yk.atRG pk30_ty47 pk30_szg38 (by decide) ([] : List UInt8) (RG.of (RG.ofOwn ho66) T10) T11 (hlt) fun v259 hp260 => (gS (Yk.loadPR (PR.of hp260 rfl) pk30_ty38 rfl (by rw [hl261]; exact pk30_isz38) (gS (Yk.callA2 pk30_pl18 T7 rfl ((pget_any _ (v56) (some (sortB s.ids, objB ps s)) (hq.keep hA69) (((idsQ (some (sortB s.ids, objB ps s)))).getD (i) ([] : List UInt8)) (bytes_len32 (hl261)) (by have := hogt (((idsQ (some (sortB s.ids, objB ps s)))).getD (i) ([] : List UInt8)); omega)).mono ?_))))))
   rintro e w265 ⟨v262, rfl, ho263, hx264⟩
   refine ⟨_, rfl, ?_⟩
   have hA266 := Ext.refl w256
   have hE := hE.trans hx257
   have hA51 := hA51.trans hx257
   have hz270 := hE.size
   have hz271 := hA51.size
   have hz272 := hA69.size
   have hb8 := eb hx257 hb8
   have hap273 : OB v262 n2 := own_older ho263 (bl hb8)
   have ho48 := Stab.own _ _ _ _ _ _ _ _ ho48 hx257
   have hap275 : ApartV v262 v47 := apartv_new' ho48 ho263
   have hap277 : ApartV v262 v65 := apartv_new' ho66.2 ho263
   refine gS (Yk.extract (vs := [v262, NI ((getQ (some (sortB s.ids, objB ps s)) (((idsQ (some (sortB s.ids, objB ps s)))).getD (i) ([] : List UInt8))).2)]) rfl rfl (gS (Yk.extract (vs := [v262, NI ((getQ (some (sortB s.ids, objB ps s)) (((idsQ (some (sortB s.ids, objB ps s)))).getD (i) ([] : List UInt8))).2)]) rfl rfl ?_)))
   clear hp260
   have hE := hE.trans hx264
   have hb8 := eb hx264 hb8
   have hA51 := hA51.trans hx264
   have ho48 := Stab.own _ _ _ _ _ _ _ _ ho48 hx264
   have hA69 := hA69.trans hx264
   have ho66 := ho66.keep hx264
   have hA266 := hA266.trans hx264
   refine gL (fun (ρ : Slots) (wz : World) => ∃ k : Nat, ∃ cl : List UInt8, ∃ vc : Value, ρ 0 = (v : Value) ∧ ρ 1 = (AB id : Value) ∧ ρ 3 = (PQ n2 0 : Value) ∧ ρ 5 = (v47 : Value) ∧ ρ 6 = (NI ((buildP ps).2) : Value) ∧ ρ 7 = (v56 : Value) ∧ ρ 8 = (NI 0 : Value) ∧ ρ 9 = (.bool (true) : Value) ∧ ρ 10 = (v65 : Value) ∧ ρ 11 = (NI i : Value) ∧ ρ 22 = (.bool (false) : Value) ∧ ρ 39 = (.bool (false) : Value) ∧ ρ 50 = (.bool (true) : Value) ∧ ρ 14 = (NI k : Value) ∧ ρ 12 = (vc : Value) ∧ Ext w wz ∧ wz.heap[n2]? = some (.cells (Lib.byteCells id).toArray 38 (0, 0)) ∧ Ext w46 wz ∧ wz.ownsRow w46.heap.size 5 1 v47 (buildP ps).1.length (Lib.byteCells (buildP ps).1) ∧ Ext w60 wz ∧ OG w60.heap.size 38 32 (Lib.byteCells) wz v65 (idsQ (some (sortB s.ids, objB ps s))) ∧ Ext w256 wz ∧ wz.ownsRow w256.heap.size 5 1 vc (cl : List UInt8).length (Lib.byteCells (cl)) ∧ (k ≤ cl.length) ∧ (cl.length ≤ 4194304) ∧ (OB vc n2) ∧ (ApartV vc v47) ∧ (ApartV vc v65) ∧ True) (fun ρ _ => 4194304 - (intOf (ρ 14)).toNat) ⟨0, (getQ (some (sortB s.ids, objB ps s)) ((idsQ (some (sortB s.ids, objB ps s))).getD (i) [])).1.1, v262, T0, T1, T3, T5, T6, T7, T8, T9, T10, T11, T22, T39, T50, rfl, rfl, hE, hb8, hA51, ho48, hA69, ho66, hA266, own_eq ho263 (rfl), Nat.zero_le _, hogt _, hap273, hap275, hap277, trivial⟩ ?_
   clear ho263
   clear hE hb8 hA51 ho48 hA69 ho66
   rintro ρ280 w281 ⟨k, cl, vc, T0, T1, T3, T5, T6, T7, T8, T9, T10, T11, T22, T39, T50, T14, T12, hE, hb8, hA51, ho48, hA69, ho66, hA266, hr_vc, hk, hcl, hap_vc_n2, hap_vc_v47, hap_vc_v65, -⟩
   have q14 := T14
   by_cases hl2 : k < cl.length
   ·refine Exists.elim (own_block hr_vc hl2) fun gc hgc => (gS (Yk.lenRB pk30_ty24 (RB.of (RB.ofOwn hr_vc) T12) (gS (Yk.eqI (a := (k : Nat)) (b := (cl.length : Nat)) T14 rfl (k_lss _ _ _ _) (kT (hl2) (cT rfl (gS (Yk.atRB (l := cl) (i := k) pk30_ty24 pk30_sz5 (RB.of (RB.ofOwn hr_vc) T12) T14 (hl2) fun v285 hp286 => (gS (Yk.loadC pk30_ty5 rfl (PCell.of hp286 rfl) (gS (Yk.bin (xv := B8 (cl.getD (k) 0)) (yv := B8 1) rfl rfl rfl (b8_add _ _ _) (gS (Yk.atOwnK (k := 1) (i := k) pk30_ty24 pk30_sz5 T12 hr_vc hgc T14 (hl2) (gS (Yk.storeOwnB (i := k) (l := cl) (a := (cl.getD (k) 0) + 1) rfl rfl hr_vc hgc (hl2) pk30_isz5 fun w287 ho288 hg289 => ?_))))))))))))))))
    have hap290 : OB vc n2 := apart_grew hg289 hap_vc_n2 (bl hb8)
    have hap291 : ApartV vc v47 := apartv_grew hg289 hap_vc_v47 ho48
    have hap293 : ApartV vc v65 := apartv_grew hg289 hap_vc_v65 ho66.2
    have hE := ext_grew hE hg289 hr_vc hz270
    have hb8 := blk_grew hb8 hg289 hap290
    have hA51 := ext_grew hA51 hg289 hr_vc hz271
    have ho48 := own_grew ho48 hg289 hap291
    have hA69 := ext_grew hA69 hg289 hr_vc hz272
    have ho66 := og_grew ho66 hg289 hap293
    have hA266 := ext_grew hA266 hg289 hr_vc (Nat.le_refl _)
    clear hp286
    clear hr_vc
    refine gS (Yk.bin (xv := NI k) (yv := NI 1) T14 rfl rfl (i64_add _ _ _ (by omega)) (gK (And.intro ⟨k + 1, (cl).set k ((cl.getD (k) 0) + 1), vc, T0, T1, T3, T5, T6, T7, T8, T9, T10, T11, T22, T39, T50, rfl, T12, hE, hb8, hA51, ho48, hA69, ho66, hA266, own_eq ho288 (rfl), by rw [List.length_set]; omega, by rw [List.length_set]; exact hcl, hap290, hap291, hap293, trivial⟩ ?_)))
    show 4194304 - (intOf (NI ((k) + (1)))).toNat < 4194304 - (intOf (ρ280 14)).toNat
    rw [q14]
    simp only [intOf, Int.toNat_natCast]; omega
   refine gS (Yk.lenRB pk30_ty24 (RB.of (RB.ofOwn hr_vc) T12) (gS (Yk.eqI (a := (k : Nat)) (b := (cl.length : Nat)) T14 rfl (k_lss _ _ _ _) (kF (hl2) (cF rfl ?_)))))
   have hl300 : (Lib.byteCells (((idsQ (some (sortB s.ids, objB ps s)))).getD (i) ([] : List UInt8))).length = 32 := (RG.elem (RG.ofOwn ho66) ([] : List UInt8) (hlt))
   refine gS (Yk.atRG pk30_ty47 pk30_szg38 (by decide) ([] : List UInt8) (RG.of (RG.ofOwn ho66) T10) T11 (hlt) fun v298 hp299 => (gS (Yk.loadPR (PR.of hp299 rfl) pk30_ty38 rfl (by rw [hl300]; exact pk30_isz38) (gS (Yk.callA2 pk30_pl18 T7 rfl ((pget_any _ (v56) (some (sortB s.ids, objB ps s)) (hq.keep hA69) (((idsQ (some (sortB s.ids, objB ps s)))).getD (i) ([] : List UInt8)) (bytes_len32 (hl300)) (by have := hogt (((idsQ (some (sortB s.ids, objB ps s)))).getD (i) ([] : List UInt8)); omega)).mono ?_))))))
   rintro e w304 ⟨v301, rfl, ho302, hx303⟩
   refine ⟨_, rfl, ?_⟩
   have hz310 := hE.size
   have hz311 := hA51.size
   have hz312 := hA69.size
   have hz313 := hA266.size
   refine gS (Yk.extract (vs := [v301, NI ((getQ (some (sortB s.ids, objB ps s)) (((idsQ (some (sortB s.ids, objB ps s)))).getD (i) ([] : List UInt8))).2)]) rfl rfl (gS (Yk.extract (vs := [v301, NI ((getQ (some (sortB s.ids, objB ps s)) (((idsQ (some (sortB s.ids, objB ps s)))).getD (i) ([] : List UInt8))).2)]) rfl rfl ?_)))
   clear hp299
   refine gM1 [0, 3, 4, 5, 6, 1, 2, 7] [1, 2] [5] [6] fun w322 hx323 => ?_
   have hA324 := Ext.refl w322
   refine meb0 hA324 ?_
   have hZ10 := hx303.trans hx323
   have ho66 := ho66.keep hZ10
   have hl327 : (Lib.byteCells (((idsQ (some (sortB s.ids, objB ps s)))).getD (i) ([] : List UInt8))).length = 32 := (RG.elem (RG.ofOwn ho66) ([] : List UInt8) (hlt))
   have ho302 := Stab.own _ _ _ _ _ _ _ _ ho302 hx323
   refine yA (Yk.atRG pk30_ty47 pk30_szg38 (by decide) ([] : List UInt8) (RG.of (RG.ofOwn ho66) T10) T11 (hlt) fun v325 hp326 => (yf (fun _ ⟨hZ, _⟩ => Yk.loadPR (PR.of (PR.keep hp326 hZ) rfl) pk30_ty38 rfl (by rw [hl327]; exact pk30_isz38) zz) (yE (Yk.rows1 pk30_rows1_75 (RB.of (RB.ofOwn ho302) (vr v301 rfl)) fun v328 w329 hr330 hx331 => ?_))))
   have hp326 := PR.keep hp326 hx331
   have hA324 := hA324.trans hx331
   refine ⟨hA324, ?_⟩
   have hA332 := Ext.refl w329
   have hZ11 := hZ10.trans hx331
   have hE := hE.trans hZ11
   refine yE (Yk.callA1 pk30_pl17 rfl ((sum_one _ (hG.keep hE) v328 ((getQ (some (sortB s.ids, objB ps s)) (((idsQ (some (sortB s.ids, objB ps s)))).getD (i) ([] : List UInt8))).1.1) hr330 (by have := hogt ((idsQ (some (sortB s.ids, objB ps s))).getD (i) []); omega)).mono ?_))
   rintro e w334 ⟨rfl, hx333⟩
   refine ⟨_, rfl, ?_⟩
   have hp326 := PR.keep hp326 hx333
   have hA332 := hA332.trans hx333
   refine ⟨hA332, ?_⟩
   refine ys (Yk.neArr (l1 := (Sha.sum ((getQ (some (sortB s.ids, objB ps s)) (((idsQ (some (sortB s.ids, objB ps s)))).getD (i) ([] : List UInt8))).1.1))) (l2 := (((idsQ (some (sortB s.ids, objB ps s)))).getD (i) ([] : List UInt8))) pk30_ty38 pk30_ty5 pk30_sz5 pk30_eg38 rfl rfl ((Sha.sum_length _)) (hal.1) zz) (kF (fun h => h hal.2.2) ?_)
   clear hp326
   have hZ12 := hZ11.trans hx333
   have hb8 := eb hZ12 hb8
   have hA51 := hA51.trans hZ12
   have ho48 := Stab.own _ _ _ _ _ _ _ _ ho48 hZ12
   have hA69 := hA69.trans hZ12
   have hZ13 := hx331.trans hx333
   have ho66 := ho66.keep hZ13
   have hE := hE.trans hx333
   refine cF rfl (gS (Yk.bin (xv := NI i) (yv := NI 1) T11 rfl rfl (i64_add _ _ _ (by omega)) (gK (And.intro ⟨i + 1, true, T0, T1, T3, T5, T6, T7, T8, T10, T22, T39, rfl, T9, hE, hb8, hA51, ho48, hA69, ho66, by omega, hth2, trivial⟩ ?_))))
   show (idsQ (some (sortB s.ids, objB ps s))).length - (intOf (NI ((i) + (1)))).toNat < (idsQ (some (sortB s.ids, objB ps s))).length - (intOf (ρ79 11)).toNat
   rw [q11]
   simp only [intOf, Int.toNat_natCast]; omega
  rw [List.take_of_length_le (by omega)] at hth
  by_cases hm : id ∈ sortB s.ids
  ·have hg0 : (getQ (some (sortB s.ids, objB ps s)) id).2 = 0 := (hall id hm).2.1
   refine gS (Yk.lenRG pk30_ty47 (RG.of (RG.ofOwn ho66) T10) (gS (Yk.eqI (a := (i : Nat)) (b := (((idsQ (some (sortB s.ids, objB ps s)))).length : Nat)) T11 rfl (k_lss _ _ _ _) (kF (hlt) (cF rfl ?_)))))
   have hpn : PackNew w50.heap.size w80 v56 (sortB s.ids, objB ps s) := (hpn.keep hA69)
   refine gL (fun (ρ : Slots) (wz : World) => ∃ j : Nat, ∃ bq : List UInt8, ∃ vb : Value, ρ 0 = (v : Value) ∧ ρ 1 = (AB id : Value) ∧ ρ 3 = (PQ n2 0 : Value) ∧ ρ 6 = (NI ((buildP ps).2) : Value) ∧ ρ 7 = (v56 : Value) ∧ ρ 8 = (NI 0 : Value) ∧ ρ 9 = (.bool (true) : Value) ∧ ρ 10 = (v65 : Value) ∧ ρ 11 = (NI i : Value) ∧ ρ 22 = (.bool (false) : Value) ∧ ρ 39 = (.bool (false) : Value) ∧ ρ 50 = (.bool (false) : Value) ∧ ρ 17 = (NI j : Value) ∧ ρ 5 = (vb : Value) ∧ Ext w wz ∧ wz.heap[n2]? = some (.cells (Lib.byteCells id).toArray 38 (0, 0)) ∧ Ext w46 wz ∧ PackNew w50.heap.size wz v56 (sortB s.ids, objB ps s) ∧ OG w60.heap.size 38 32 (Lib.byteCells) wz v65 (idsQ (some (sortB s.ids, objB ps s))) ∧ wz.ownsRow w46.heap.size 5 1 vb (bq : List UInt8).length (Lib.byteCells (bq)) ∧ (j ≤ bq.length) ∧ (bq.length ≤ 1099511627776) ∧ (∀ k, Value.ownBlock vb = some k → k < w50.heap.size) ∧ (OB vb n2) ∧ (ApartV vb v65) ∧ True) (fun ρ _ => 1099511627776 - (intOf (ρ 17)).toNat) ⟨0, (buildP ps).1, v47, T0, T1, T3, T6, T7, T8, (T9.trans (congrArg Value.bool (hth.trans (decide_eq_true hm)))), T10, T11, T22, T39, rfl, rfl, T5, hE, hb8, hA51, hpn, ho66, own_eq ho48 (rfl), Nat.zero_le _, (by omega), hlb0, hap54, hap75, trivial⟩ ?_
   clear ho48
   clear hA69
   clear hE hb8 hA51 hpn ho66
   rintro ρ340 w341 ⟨j, bq, vb, T0, T1, T3, T6, T7, T8, T9, T10, T11, T22, T39, T50, T17, T5, hE, hb8, hA51, hpn, ho66, hr_vb, hj, hbll, hltb, hap_vb_n2, hap_vb_v65, -⟩
   have q17 := T17
   by_cases hl2 : j < bq.length
   ·refine Exists.elim (own_block hr_vb hl2) fun gb hgb => (gS (Yk.lenRB pk30_ty24 (RB.of (RB.ofOwn hr_vb) T5) (gS (Yk.eqI (a := (j : Nat)) (b := (bq.length : Nat)) T17 rfl (k_lss _ _ _ _) (kT (hl2) (cT rfl (gS (Yk.atOwnK (k := 1) (i := j) pk30_ty24 pk30_sz5 T5 hr_vb hgb T17 (hl2) (gS (Yk.storeOwnB (i := j) (l := bq) (a := 0) rfl rfl hr_vb hgb (hl2) pk30_isz5 fun w345 ho346 hg347 => ?_))))))))))
    have hap348 : OB vb n2 := apart_grew hg347 hap_vb_n2 (bl hb8)
    have hap349 : ApartV vb v65 := apartv_grew hg347 hap_vb_v65 ho66.2
    have hE := ext_grew hE hg347 hr_vb hz53
    have hb8 := blk_grew hb8 hg347 hap348
    have hA51 := ext_grew hA51 hg347 hr_vb (Nat.le_refl _)
    have hpn : PackNew w50.heap.size w345 v56 (sortB s.ids, objB ps s) := PackNew.older2 hpn hg347 hltb
    have ho66 := og_grew ho66 hg347 hap349
    clear hr_vb
    refine gS (Yk.bin (xv := NI j) (yv := NI 1) T17 rfl rfl (i64_add _ _ _ (by omega)) (gK (And.intro ⟨j + 1, (bq).set j (0), vb, T0, T1, T3, T6, T7, T8, T9, T10, T11, T22, T39, T50, rfl, T5, hE, hb8, hA51, hpn, ho66, own_eq ho346 (rfl), by rw [List.length_set]; omega, by rw [List.length_set]; exact hbll, hltb, hap348, hap349, trivial⟩ ?_)))
    show 1099511627776 - (intOf (NI ((j) + (1)))).toNat < 1099511627776 - (intOf (ρ340 17)).toNat
    rw [q17]
    simp only [intOf, Int.toNat_natCast]; omega
   have hq2 := PackNew.opt hpn
   refine gS (Yk.lenRB pk30_ty24 (RB.of (RB.ofOwn hr_vb) T5) (gS (Yk.eqI (a := (j : Nat)) (b := (bq.length : Nat)) T17 rfl (k_lss _ _ _ _) (kF (hl2) (cF rfl (gS (Yk.loadAll T3 hb8 pk30_ty38 rfl (by exact sizeId_of hid) (gS (Yk.callA2 pk30_pl18 T7 rfl ((pget_any _ (v56) (some (sortB s.ids, objB ps s)) hq2 (id) hid (by have := hogt (id); omega)).mono ?_))))))))))
   rintro e w357 ⟨v354, rfl, ho355, hx356⟩
   refine ⟨_, rfl, ?_⟩
   have hz361 := hE.size
   have hz362 := hA51.size
   have hE := hE.trans hx356
   refine gS (Yk.extract (vs := [v354, NI ((getQ (some (sortB s.ids, objB ps s)) (id)).2)]) rfl rfl (gS (Yk.extract (vs := [v354, NI ((getQ (some (sortB s.ids, objB ps s)) (id)).2)]) rfl rfl (gS (Yk.eqI (a := ((getQ (some (sortB s.ids, objB ps s)) (id)).2 : Nat)) (b := (0 : Nat)) rfl rfl (k_eql _ _ _ _) (kT (hg0) (gS (Yk.eqBool (a := true) (b := true) pk30_ty4 rfl T9 (gY rfl rfl (gY rfl rfl (gN rfl rfl T9 rfl (gN rfl rfl T9 rfl (gY rfl rfl (gS (Yk.pickT T9 rfl (gS (Yk.pickT rfl rfl (gY rfl rfl (gS (Yk.callA0 pk30_pl14  ((awake11 _ (hG.keep hE)).mono ?_)))))))))))))))))))))
   rintro e w370 ⟨rfl, hx369⟩
   refine ⟨_, rfl, ?_⟩
   refine gS (Yk.pickT rfl rfl (rt1 rfl (vr (.bool (true)) rfl) ?_))
   have hE := hE.trans hx369
   exact ⟨rfl, hE⟩
  have hg0 : (getQ (some (sortB s.ids, objB ps s)) id).2 = 12 := get_miss (fun h => hm (mem_sort.2 h))
  refine gS (Yk.lenRG pk30_ty47 (RG.of (RG.ofOwn ho66) T10) (gS (Yk.eqI (a := (i : Nat)) (b := (((idsQ (some (sortB s.ids, objB ps s)))).length : Nat)) T11 rfl (k_lss _ _ _ _) (kF (hlt) (cF rfl ?_)))))
  have hpn : PackNew w50.heap.size w80 v56 (sortB s.ids, objB ps s) := (hpn.keep hA69)
  refine gL (fun (ρ : Slots) (wz : World) => ∃ j : Nat, ∃ bq : List UInt8, ∃ vb : Value, ρ 0 = (v : Value) ∧ ρ 1 = (AB id : Value) ∧ ρ 3 = (PQ n2 0 : Value) ∧ ρ 6 = (NI ((buildP ps).2) : Value) ∧ ρ 7 = (v56 : Value) ∧ ρ 8 = (NI 0 : Value) ∧ ρ 9 = (.bool (false) : Value) ∧ ρ 10 = (v65 : Value) ∧ ρ 11 = (NI i : Value) ∧ ρ 22 = (.bool (false) : Value) ∧ ρ 39 = (.bool (false) : Value) ∧ ρ 50 = (.bool (false) : Value) ∧ ρ 17 = (NI j : Value) ∧ ρ 5 = (vb : Value) ∧ Ext w wz ∧ wz.heap[n2]? = some (.cells (Lib.byteCells id).toArray 38 (0, 0)) ∧ Ext w46 wz ∧ PackNew w50.heap.size wz v56 (sortB s.ids, objB ps s) ∧ OG w60.heap.size 38 32 (Lib.byteCells) wz v65 (idsQ (some (sortB s.ids, objB ps s))) ∧ wz.ownsRow w46.heap.size 5 1 vb (bq : List UInt8).length (Lib.byteCells (bq)) ∧ (j ≤ bq.length) ∧ (bq.length ≤ 1099511627776) ∧ (∀ k, Value.ownBlock vb = some k → k < w50.heap.size) ∧ (OB vb n2) ∧ (ApartV vb v65) ∧ True) (fun ρ _ => 1099511627776 - (intOf (ρ 17)).toNat) ⟨0, (buildP ps).1, v47, T0, T1, T3, T6, T7, T8, (T9.trans (congrArg Value.bool (hth.trans (decide_eq_false hm)))), T10, T11, T22, T39, rfl, rfl, T5, hE, hb8, hA51, hpn, ho66, own_eq ho48 (rfl), Nat.zero_le _, (by omega), hlb0, hap54, hap75, trivial⟩ ?_
  clear ho48
  clear hA69
  clear hE hb8 hA51 hpn ho66
  rintro ρ375 w376 ⟨j, bq, vb, T0, T1, T3, T6, T7, T8, T9, T10, T11, T22, T39, T50, T17, T5, hE, hb8, hA51, hpn, ho66, hr_vb, hj, hbll, hltb, hap_vb_n2, hap_vb_v65, -⟩
  have q17 := T17
  by_cases hl2 : j < bq.length
  ·refine Exists.elim (own_block hr_vb hl2) fun gb hgb => (gS (Yk.lenRB pk30_ty24 (RB.of (RB.ofOwn hr_vb) T5) (gS (Yk.eqI (a := (j : Nat)) (b := (bq.length : Nat)) T17 rfl (k_lss _ _ _ _) (kT (hl2) (cT rfl (gS (Yk.atOwnK (k := 1) (i := j) pk30_ty24 pk30_sz5 T5 hr_vb hgb T17 (hl2) (gS (Yk.storeOwnB (i := j) (l := bq) (a := 0) rfl rfl hr_vb hgb (hl2) pk30_isz5 fun w380 ho381 hg382 => ?_))))))))))
   have hap383 : OB vb n2 := apart_grew hg382 hap_vb_n2 (bl hb8)
   have hap384 : ApartV vb v65 := apartv_grew hg382 hap_vb_v65 ho66.2
   have hE := ext_grew hE hg382 hr_vb hz53
   have hb8 := blk_grew hb8 hg382 hap383
   have hA51 := ext_grew hA51 hg382 hr_vb (Nat.le_refl _)
   have hpn : PackNew w50.heap.size w380 v56 (sortB s.ids, objB ps s) := PackNew.older2 hpn hg382 hltb
   have ho66 := og_grew ho66 hg382 hap384
   clear hr_vb
   refine gS (Yk.bin (xv := NI j) (yv := NI 1) T17 rfl rfl (i64_add _ _ _ (by omega)) (gK (And.intro ⟨j + 1, (bq).set j (0), vb, T0, T1, T3, T6, T7, T8, T9, T10, T11, T22, T39, T50, rfl, T5, hE, hb8, hA51, hpn, ho66, own_eq ho381 (rfl), by rw [List.length_set]; omega, by rw [List.length_set]; exact hbll, hltb, hap383, hap384, trivial⟩ ?_)))
   show 1099511627776 - (intOf (NI ((j) + (1)))).toNat < 1099511627776 - (intOf (ρ375 17)).toNat
   rw [q17]
   simp only [intOf, Int.toNat_natCast]; omega
  have hq2 := PackNew.opt hpn
  refine gS (Yk.lenRB pk30_ty24 (RB.of (RB.ofOwn hr_vb) T5) (gS (Yk.eqI (a := (j : Nat)) (b := (bq.length : Nat)) T17 rfl (k_lss _ _ _ _) (kF (hl2) (cF rfl (gS (Yk.loadAll T3 hb8 pk30_ty38 rfl (by exact sizeId_of hid) (gS (Yk.callA2 pk30_pl18 T7 rfl ((pget_any _ (v56) (some (sortB s.ids, objB ps s)) hq2 (id) hid (by have := hogt (id); omega)).mono ?_))))))))))
  rintro e w392 ⟨v389, rfl, ho390, hx391⟩
  refine ⟨_, rfl, ?_⟩
  have hz396 := hE.size
  have hz397 := hA51.size
  have hE := hE.trans hx391
  refine gS (Yk.extract (vs := [v389, NI ((getQ (some (sortB s.ids, objB ps s)) (id)).2)]) rfl rfl (gS (Yk.extract (vs := [v389, NI ((getQ (some (sortB s.ids, objB ps s)) (id)).2)]) rfl rfl (gS (Yk.eqI (a := ((getQ (some (sortB s.ids, objB ps s)) (id)).2 : Nat)) (b := (0 : Nat)) rfl rfl (k_eql _ _ _ _) (kF (by rw [hg0]; decide) (gS (Yk.eqBool (a := false) (b := false) pk30_ty4 rfl T9 (gY rfl rfl (gY rfl rfl (gY rfl T9 (gY rfl T9 (gS (Yk.eqI (a := ((getQ (some (sortB s.ids, objB ps s)) (id)).2 : Nat)) (b := (12 : Nat)) rfl rfl (k_eql _ _ _ _) (kT (hg0) (gY rfl rfl (gS (Yk.pickF T9 rfl (gS (Yk.pickT rfl rfl (gY rfl rfl (gS (Yk.callA0 pk30_pl14  ((awake11 _ (hG.keep hE)).mono ?_))))))))))))))))))))))))
  rintro e w405 ⟨rfl, hx404⟩
  refine ⟨_, rfl, ?_⟩
  refine gS (Yk.pickT rfl rfl (rt1 rfl (vr (.bool (true)) rfl) ?_))
  have hE := hE.trans hx404
  exact ⟨rfl, hE⟩
 have hE := hE.trans hx6
 refine gS (Yk.callA1 pk30_pl10 rfl ((light_any _ v ps (hr.keep hE) (hps.keep hE)).mono ?_))
 rintro e w409 ⟨c_, rfl, hlc, hx408⟩
 refine ⟨_, rfl, ?_⟩
 obtain rfl : c_ = false := by cases hcc : c_ with | false => rfl | true => exact absurd (hlc.1 hcc) hL
 refine gS (Yk.notB rfl (cT rfl (rt1 rfl (vr (.bool (true)) rfl) ?_)))
 have hE := hE.trans hx408
 exact ⟨rfl, hE⟩
end Go.Proofs.YtcegdjpdnlaleaaDoor
