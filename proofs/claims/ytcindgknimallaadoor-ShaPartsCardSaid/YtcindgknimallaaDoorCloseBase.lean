/- What the laid tables give; the world of the witness; numbers of eight bits. -/
import Derived.Test.YtcindgknimallaaDoorOpen
import Derived.Test.YtcindgknimallaaDoorSha10
import Derived.Deep.DeepHandedRow
import Derived.Lib.LaidTab
import Derived.Stop.LaidErr
namespace Go.Proofs.YtcindgknimallaaDoor
open Go.ChangeShapes Go.WideShapes Go.ChangeAt Go.RowKit
theorem g_first : Tryd.prog.globalNamed "variorum/sha.first" = some 0 := by kernel_rfl
theorem gt_first : (Tryd.prog.globals[0]?).map (·.type) = some 41 := by kernel_rfl
theorem gc_first : Tryd.prog.cellsOf 41 = 8 := by kernel_rfl
def zs_first : List Int := [1779033703, 3144134277, 1013904242, 2773480762, 1359893119, 2600822924, 528734635, 1541459225]
theorem zs_first_eq : (zs_first.map fun z => Value.int .u32 z).toArray = cellsU Sha.first := by kernel_rfl
theorem g_words : Tryd.prog.globalNamed "variorum/sha.words" = some 1 := by kernel_rfl
theorem gt_words : (Tryd.prog.globals[1]?).map (·.type) = some 42 := by kernel_rfl
theorem gc_words : Tryd.prog.cellsOf 42 = 64 := by kernel_rfl
def zs_words : List Int := [1116352408, 1899447441, 3049323471, 3921009573, 961987163, 1508970993, 2453635748, 2870763221, 3624381080, 310598401, 607225278, 1426881987, 1925078388, 2162078206, 2614888103, 3248222580, 3835390401, 4022224774, 264347078, 604807628, 770255983, 1249150122, 1555081692, 1996064986, 2554220882, 2821834349, 2952996808, 3210313671, 3336571891, 3584528711, 113926993, 338241895, 666307205, 773529912, 1294757372, 1396182291, 1695183700, 1986661051, 2177026350, 2456956037, 2730485921, 2820302411, 3259730800, 3345764771, 3516065817, 3600352804, 4094571909, 275423344, 430227734, 506948616, 659060556, 883997877, 958139571, 1322822218, 1537002063, 1747873779, 1955562222, 2024104815, 2227730452, 2361852424, 2428436474, 2756734187, 3204031479, 3329325298]
theorem zs_words_eq : (zs_words.map fun z => Value.int .u32 z).toArray = cellsU Sha.words := by kernel_rfl
theorem gc_u : Tryd.prog.cellsOf 40 = 1 := by kernel_rfl
theorem var_block {P : Program} {W : World} {name : String} {g : Nat} {cs : Array Value} (hg : P.globalNamed name = some g) (h : W.var? P name = some cs) : ∃ t fr, W.heap[g]? = some (.cells cs t fr) := by
  unfold World.var? at h
  rw [hg] at h
  simp only [Option.bind_some] at h
  split at h
  · rename_i cs' t fr he
    cases h
    exact ⟨t, fr, he⟩
  · cases h
/-- WHAT THE ROW's LIST GIVES. -/
theorem laid_of {W : World} (h : laidMetH Tryd.prog [("variorum/sha.first", Rows.laid_variorum_sha_first), ("variorum/sha.words", Rows.laid_variorum_sha_words)] W) : Laid W := by
  have h1 : Lib.TabIs Tryd.prog W "variorum/sha.first" .u32 zs_first := Lib.tabIs_of_head g_first gt_first Tryd.underlying41 Tryd.underlying40 gc_u gc_first h
  have h2 : Lib.TabIs Tryd.prog W "variorum/sha.words" .u32 zs_words := Lib.tabIs_of_head (rest := []) g_words gt_words Tryd.underlying42 Tryd.underlying40 gc_u gc_words (laidMet.tail h)
  unfold Lib.TabIs at h1 h2
  rw [zs_first_eq] at h1
  rw [zs_words_eq] at h2
  exact ⟨var_block g_first h1, var_block g_words h2⟩
/-- A WORLD FOR THE WITNESS: the settled one, the tables as their initialisers lay them. -/
noncomputable def laidWorld (os : Os) : World :=
  let h0 := (World.holding Tryd.prog os ⟨#[], #[], []⟩).heap
  let h1 := h0.modify 0 fun
      | .cells _ t frozen => .cells (cellsU Sha.first) t frozen
      | o => o
  let h2 := h1.modify 1 fun
      | .cells _ t frozen => .cells (cellsU Sha.words) t frozen
      | o => o
  { World.holding Tryd.prog os ⟨#[], #[], []⟩ with heap := h2 }
theorem laid_met (os : Os) (args : Array Value) : laidMet Tryd.prog [("variorum/sha.first", Rows.laid_variorum_sha_first), ("variorum/sha.words", Rows.laid_variorum_sha_words)] ((laidWorld os).forCall (fun _ _ => 0) ⟨#[], args, []⟩).memory :=
  laidMet_of_run' 8 (by kernel_rfl) (by kernel_rfl)
theorem u8_of {a : Int} (h : (Lit.int .u8 a).wf = true) : ∃ c : UInt8, a = (c.toNat : Int) := by
  have hb : 0 ≤ a ∧ a ≤ 255 := by simpa [Lit.wf, IntKind.min, IntKind.max, IntKind.signed, IntKind.bits] using h
  refine ⟨UInt8.ofNat a.toNat, ?_⟩
  simp
  omega
end Go.Proofs.YtcindgknimallaaDoor
