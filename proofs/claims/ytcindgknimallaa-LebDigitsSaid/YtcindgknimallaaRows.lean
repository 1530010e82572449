/-
  No cell of these rows narrows 'for every input' (looked for: loops, veiled, ifaces, maps, wideKeys, modest, calm, conditions, laid).
  DERIVED. THE GIVEN ROWS OF THIS SEAT. 4 by the template 'for every input the law returns true; each argument reads behind the call as it read before'; 0 by the template 'total and deterministic' (their statements: YtcindgknimallaaTotals.lean).
  GIVEN WITH THE SEED: the statements are not yours to turn. If you find one false, say at which input.
  Laid BY PROGRAM, IN A SANDBOX (cutbox-rows.mjs): the forced cells as the released guide's own fill.sh prints them over the translation 88ae08582cde3b9a… (all of the seat's roots in one cut). By AI agents, Wed Nov 11 2026. No macro, syntax, notation, axiom, sorry.
-/
import Derived.Test.YtcindgknimallaaChecked
import GoSem.Claim
import GoSem.ClaimJoined
import GoSem.ClaimMapViews
import Derived.JoinedTies
import Derived.KernelRfl
namespace Go.Proofs.Ytcindgknimallaa
/- THE CELL 'sum', in the pinned program and in every row, IS THE sha256 OF THE DUMP (.gsa) THAT YtcindgknimallaaProg.lean LOADS. Nothing in Lean hashes anything: it is a label: what it is worth is what the hold of that sum in a sandbox is worth. -/
noncomputable def Try.pinned : Pinned := { name := "ytcindgknimallaa", sum := "88ae08582cde3b9a77c948c4113fc2ad4e7e9d9caebff32855cf29a98a20ee98", checked := Try.checked }
namespace Rows
def none {H : Type} : Left H := { results := [], args := [] }

/-- 'variorumlaw02.LebPuts': WHATEVER THE INPUT: true; the input reads as it did. -/
def lebPutsSpec : ChangeSpec := { name := "lebPuts", fn := fun _ => fun
  | [d1, d2, d3] => { results := [.lit (.bool true)], args := [d1, d2, d3] }
  | _ => none }
def lebPutsRow : OpenClaim := { program := "ytcindgknimallaa", sum := "88ae08582cde3b9a77c948c4113fc2ad4e7e9d9caebff32855cf29a98a20ee98", func := "variorum/variorumlaw02.LebPuts", spec := "lebPuts", apart := false }
def LebPutsSaid : Prop := lebPutsRow.holds Try.pinned (OpenSpec.ofChange lebPutsSpec)

/-- ITS FALSE NEIGHBOUR: 'it returns false'. Refute it at one input. -/
def lebPutsWrong : ChangeSpec := { name := "lebPuts", fn := fun _ => fun
  | [d1, d2, d3] => { results := [.lit (.bool false)], args := [d1, d2, d3] }
  | _ => none }
def LebPutsWrongFalsely : Prop := lebPutsRow.holds Try.pinned (OpenSpec.ofChange lebPutsWrong)

/-- 'variorumlaw02.LebBack': WHATEVER THE INPUT: true; the input reads as it did. -/
def lebBackSpec : ChangeSpec := { name := "lebBack", fn := fun _ => fun
  | [d] => { results := [.lit (.bool true)], args := [d] }
  | _ => none }
def lebBackRow : OpenClaim := { program := "ytcindgknimallaa", sum := "88ae08582cde3b9a77c948c4113fc2ad4e7e9d9caebff32855cf29a98a20ee98", func := "variorum/variorumlaw02.LebBack", spec := "lebBack", apart := false }
def LebBackSaid : Prop := lebBackRow.holds Try.pinned (OpenSpec.ofChange lebBackSpec)

/-- ITS FALSE NEIGHBOUR: 'it returns false'. Refute it at one input. -/
def lebBackWrong : ChangeSpec := { name := "lebBack", fn := fun _ => fun
  | [d] => { results := [.lit (.bool false)], args := [d] }
  | _ => none }
def LebBackWrongFalsely : Prop := lebBackRow.holds Try.pinned (OpenSpec.ofChange lebBackWrong)

/-- 'variorumlaw02.LebHex': WHATEVER THE INPUT: true; the input reads as it did. -/
def lebHexSpec : ChangeSpec := { name := "lebHex", fn := fun _ => fun
  | [d1, d2] => { results := [.lit (.bool true)], args := [d1, d2] }
  | _ => none }
def lebHexRow : OpenClaim := { program := "ytcindgknimallaa", sum := "88ae08582cde3b9a77c948c4113fc2ad4e7e9d9caebff32855cf29a98a20ee98", func := "variorum/variorumlaw02.LebHex", spec := "lebHex", inPlace := ["internal/bytealg.IndexByteString", "internal/abi.NoEscape"], unfollowed := true, recurses := true, apart := false }
def LebHexSaid : Prop := lebHexRow.holds Try.pinned (OpenSpec.ofChange lebHexSpec)

/-- ITS FALSE NEIGHBOUR: 'it returns false'. Refute it at one input. -/
def lebHexWrong : ChangeSpec := { name := "lebHex", fn := fun _ => fun
  | [d1, d2] => { results := [.lit (.bool false)], args := [d1, d2] }
  | _ => none }
def LebHexWrongFalsely : Prop := lebHexRow.holds Try.pinned (OpenSpec.ofChange lebHexWrong)

/-- 'variorumlaw02.LebDigits': WHATEVER THE INPUT: true; the input reads as it did. -/
def lebDigitsSpec : ChangeSpec := { name := "lebDigits", fn := fun _ => fun
  | [d1, d2, d3] => { results := [.lit (.bool true)], args := [d1, d2, d3] }
  | _ => none }
def lebDigitsRow : OpenClaim := { program := "ytcindgknimallaa", sum := "88ae08582cde3b9a77c948c4113fc2ad4e7e9d9caebff32855cf29a98a20ee98", func := "variorum/variorumlaw02.LebDigits", spec := "lebDigits", inPlace := ["internal/abi.NoEscape", "internal/bytealg.IndexByteString"], unfollowed := true, recurses := true, apart := false }
def LebDigitsSaid : Prop := lebDigitsRow.holds Try.pinned (OpenSpec.ofChange lebDigitsSpec)

/-- ITS FALSE NEIGHBOUR: 'it returns false'. Refute it at one input. -/
def lebDigitsWrong : ChangeSpec := { name := "lebDigits", fn := fun _ => fun
  | [d1, d2, d3] => { results := [.lit (.bool false)], args := [d1, d2, d3] }
  | _ => none }
def LebDigitsWrongFalsely : Prop := lebDigitsRow.holds Try.pinned (OpenSpec.ofChange lebDigitsWrong)

/- THE SECOND FORM. 'bulk': how many values and letters a reading holds, each counted each time it is reached (what is shared counts as often as it is met; a slice's spare places count too). A statement '..UptoSaid' is the law's where the arguments, and the package variables that the reading takes, are together of bulk at most 1048576: NARROWER than '..Said'. Prove '..Said' where nothing that the law and all that it calls make is longer than what came in: it says more and counts as full. Else prove '..UptoSaid'. A law counts once. -/
mutual
def uptoBulk {H : Type} : DataW H → Nat
  | .lit (.string bytes) => bytes.length + 1
  | .lit _ => 1
  | .nil => 1
  | .ptr d => uptoBulk d + 1
  | .slice elems spare => uptoBulkAll elems + uptoBulkAll spare + 1
  | .agg parts => uptoBulkAll parts + 1
  | .iface _ d => uptoBulk d + 1
  | .map entries => uptoBulkEntries entries + 1
  | .held _ => 1
def uptoBulkAll {H : Type} : List (DataW H) → Nat
  | [] => 0
  | d :: r => uptoBulk d + uptoBulkAll r
def uptoBulkEntries {H : Type} : List (Lit × DataW H) → Nat
  | [] => 0
  | x :: r => uptoBulkEntry x + uptoBulkEntries r
def uptoBulkEntry {H : Type} : Lit × DataW H → Nat
  | (.string bytes, d) => bytes.length + uptoBulk d + 1
  | (_, d) => uptoBulk d + 1
 end
def uptoSmall : (H : Type) → List (DataW H) → Bool := fun _ ds => decide (uptoBulkAll ds ≤ 1048576)
def OpenSpec.upto (s : _root_.Go.ChangeSpec) : _root_.Go.OpenSpec := { _root_.Go.OpenSpec.ofChange s with cond := some uptoSmall }

/-- 'variorumlaw02.LebPuts', WHERE WHAT IT READS IS OF BULK AT MOST 1048576: true; the input reads as it did. -/
def lebPutsUptoRow : OpenClaim := { program := "ytcindgknimallaa", sum := "88ae08582cde3b9a77c948c4113fc2ad4e7e9d9caebff32855cf29a98a20ee98", func := "variorum/variorumlaw02.LebPuts", spec := "lebPuts", apart := false, narrowed := true }
def LebPutsUptoSaid : Prop := lebPutsUptoRow.holds Try.pinned (OpenSpec.upto lebPutsSpec)

/-- 'variorumlaw02.LebBack', WHERE WHAT IT READS IS OF BULK AT MOST 1048576: true; the input reads as it did. -/
def lebBackUptoRow : OpenClaim := { program := "ytcindgknimallaa", sum := "88ae08582cde3b9a77c948c4113fc2ad4e7e9d9caebff32855cf29a98a20ee98", func := "variorum/variorumlaw02.LebBack", spec := "lebBack", apart := false, narrowed := true }
def LebBackUptoSaid : Prop := lebBackUptoRow.holds Try.pinned (OpenSpec.upto lebBackSpec)

/-- 'variorumlaw02.LebHex', WHERE WHAT IT READS IS OF BULK AT MOST 1048576: true; the input reads as it did. -/
def lebHexUptoRow : OpenClaim := { program := "ytcindgknimallaa", sum := "88ae08582cde3b9a77c948c4113fc2ad4e7e9d9caebff32855cf29a98a20ee98", func := "variorum/variorumlaw02.LebHex", spec := "lebHex", inPlace := ["internal/bytealg.IndexByteString", "internal/abi.NoEscape"], unfollowed := true, recurses := true, apart := false, narrowed := true }
def LebHexUptoSaid : Prop := lebHexUptoRow.holds Try.pinned (OpenSpec.upto lebHexSpec)

/-- 'variorumlaw02.LebDigits', WHERE WHAT IT READS IS OF BULK AT MOST 1048576: true; the input reads as it did. -/
def lebDigitsUptoRow : OpenClaim := { program := "ytcindgknimallaa", sum := "88ae08582cde3b9a77c948c4113fc2ad4e7e9d9caebff32855cf29a98a20ee98", func := "variorum/variorumlaw02.LebDigits", spec := "lebDigits", inPlace := ["internal/abi.NoEscape", "internal/bytealg.IndexByteString"], unfollowed := true, recurses := true, apart := false, narrowed := true }
def LebDigitsUptoSaid : Prop := lebDigitsUptoRow.holds Try.pinned (OpenSpec.upto lebDigitsSpec)

end Rows
end Go.Proofs.Ytcindgknimallaa
