/-
  NARROWER THAN 'FOR EVERY INPUT', by the rows' own cells (each row's printed sentence says how): WireWrites: laid · WireReads: laid · WireBack: laid · WireCut: laid · RefsApply: laid · RefsWhole: laid · RefsMoved: laid · WireRefs: laid · WireTold: laid · RefsLook: laid · RefsKept: laid · RefsBack: laid.
  DERIVED. THE GIVEN ROWS OF THIS SEAT. 12 by the template 'for every input the law returns true; each argument reads behind the call as it read before'; 0 by the template 'total and deterministic' (their statements: YtmonlobfofkbdaaDoorTotals.lean).
  GIVEN WITH THE SEED: the statements are not yours to turn. If you find one false, say at which input.
  Laid BY PROGRAM, IN A SANDBOX (cutbox-rows.mjs): the forced cells as the released guide's own fill.sh prints them over the translation d17ae5055b25ebc0… (all of the seat's roots in one cut). By AI agents, Wed Nov 11 2026. No macro, syntax, notation, axiom, sorry.
-/
import Derived.Test.YtmonlobfofkbdaaDoorChecked
import GoSem.PinnedTables
import GoSem.Claim
import GoSem.ClaimJoined
import GoSem.ClaimMapViews
import Derived.JoinedTies
import Derived.KernelRfl
namespace Go.Proofs.YtmonlobfofkbdaaDoor
/- THE CELL 'sum', in the pinned program and in every row, IS THE sha256 OF THE DUMP (.gsa) THAT YtmonlobfofkbdaaDoorProg.lean LOADS. Nothing in Lean hashes anything: it is a label: what it is worth is what the hold of that sum in a sandbox is worth. -/
noncomputable def Tryd.pinned : Pinned := { name := "ytmonlobfofkbdaadoor", sum := "d17ae5055b25ebc084e839919331bc763f1681ed0304330905e65dbcb58a478a", checked := Tryd.checked }
namespace Rows
def none {H : Type} : Left H := { results := [], args := [] }

/- WHAT THE LISTED PACKAGE-LEVEL VARIABLES READ AS WHEN THE CALL BEGINS. Each datum BY PROGRAM (the guide's laid-datum.mjs) off the statement by which the dump's own 'gosem.cut.vars' lays the variable. In a bare row this is a premise. The card (YtmonlobfofkbdaaDoorCards.lean) ties it to the program's text. -/
def laid_unicode_utf8_acceptRanges {H : Type} : DataW H := .agg [.agg [.lit (.int .u8 128), .lit (.int .u8 191)], .agg [.lit (.int .u8 160), .lit (.int .u8 191)], .agg [.lit (.int .u8 128), .lit (.int .u8 159)], .agg [.lit (.int .u8 144), .lit (.int .u8 191)], .agg [.lit (.int .u8 128), .lit (.int .u8 143)], .agg [.lit (.int .u8 0), .lit (.int .u8 0)], .agg [.lit (.int .u8 0), .lit (.int .u8 0)], .agg [.lit (.int .u8 0), .lit (.int .u8 0)], .agg [.lit (.int .u8 0), .lit (.int .u8 0)], .agg [.lit (.int .u8 0), .lit (.int .u8 0)], .agg [.lit (.int .u8 0), .lit (.int .u8 0)], .agg [.lit (.int .u8 0), .lit (.int .u8 0)], .agg [.lit (.int .u8 0), .lit (.int .u8 0)], .agg [.lit (.int .u8 0), .lit (.int .u8 0)], .agg [.lit (.int .u8 0), .lit (.int .u8 0)], .agg [.lit (.int .u8 0), .lit (.int .u8 0)]]
/-- One of Go's own tables, pinned by name: the form's constant. -/
def laid_unicode_utf8_first : DataW Unit := Go.Pinned.utf8First

/-- 'variorumlaw25.WireWrites': WHATEVER THE INPUT: true; the input reads as it did. -/
def wireWritesSpec : ChangeSpec := { name := "wireWrites", fn := fun _ => fun
  | [d] => { results := [.lit (.bool true)], args := [d] }
  | _ => none }
def wireWritesRow : OpenClaim := { program := "ytmonlobfofkbdaadoor", sum := "d17ae5055b25ebc084e839919331bc763f1681ed0304330905e65dbcb58a478a", func := "variorum/variorumlaw25.WireWrites", spec := "wireWrites", inPlace := ["internal/bytealg.IndexByteString", "internal/bytealg.IndexString", "internal/bytealg.Compare"], unfollowed := true, recurses := true, named := ["unicode/utf8.first", "unicode/utf8.acceptRanges", "internal/bytealg.MaxLen"], apart := false, laid := [("unicode/utf8.acceptRanges", laid_unicode_utf8_acceptRanges), ("unicode/utf8.first", laid_unicode_utf8_first)] }
def WireWritesSaid : Prop := wireWritesRow.holds Tryd.pinned (OpenSpec.ofChange wireWritesSpec)

/-- ITS FALSE NEIGHBOUR: 'it returns false'. Refute it at one input. -/
def wireWritesWrong : ChangeSpec := { name := "wireWrites", fn := fun _ => fun
  | [d] => { results := [.lit (.bool false)], args := [d] }
  | _ => none }
def WireWritesWrongFalsely : Prop := wireWritesRow.holds Tryd.pinned (OpenSpec.ofChange wireWritesWrong)

/-- 'variorumlaw25.WireReads': WHATEVER THE INPUT: true; the input reads as it did. -/
def wireReadsSpec : ChangeSpec := { name := "wireReads", fn := fun _ => fun
  | [d] => { results := [.lit (.bool true)], args := [d] }
  | _ => none }
def wireReadsRow : OpenClaim := { program := "ytmonlobfofkbdaadoor", sum := "d17ae5055b25ebc084e839919331bc763f1681ed0304330905e65dbcb58a478a", func := "variorum/variorumlaw25.WireReads", spec := "wireReads", inPlace := ["internal/bytealg.IndexByteString", "internal/bytealg.IndexString", "internal/bytealg.Compare"], unfollowed := true, recurses := true, named := ["unicode/utf8.first", "unicode/utf8.acceptRanges", "internal/bytealg.MaxLen"], apart := false, laid := [("unicode/utf8.acceptRanges", laid_unicode_utf8_acceptRanges), ("unicode/utf8.first", laid_unicode_utf8_first)] }
def WireReadsSaid : Prop := wireReadsRow.holds Tryd.pinned (OpenSpec.ofChange wireReadsSpec)

/-- ITS FALSE NEIGHBOUR: 'it returns false'. Refute it at one input. -/
def wireReadsWrong : ChangeSpec := { name := "wireReads", fn := fun _ => fun
  | [d] => { results := [.lit (.bool false)], args := [d] }
  | _ => none }
def WireReadsWrongFalsely : Prop := wireReadsRow.holds Tryd.pinned (OpenSpec.ofChange wireReadsWrong)

/-- 'variorumlaw25.WireBack': WHATEVER THE INPUT: true; the input reads as it did. -/
def wireBackSpec : ChangeSpec := { name := "wireBack", fn := fun _ => fun
  | [d1, d2] => { results := [.lit (.bool true)], args := [d1, d2] }
  | _ => none }
def wireBackRow : OpenClaim := { program := "ytmonlobfofkbdaadoor", sum := "d17ae5055b25ebc084e839919331bc763f1681ed0304330905e65dbcb58a478a", func := "variorum/variorumlaw25.WireBack", spec := "wireBack", inPlace := ["internal/bytealg.IndexByteString", "internal/bytealg.IndexString", "internal/bytealg.Compare"], unfollowed := true, recurses := true, named := ["unicode/utf8.first", "unicode/utf8.acceptRanges", "internal/bytealg.MaxLen"], apart := false, laid := [("unicode/utf8.acceptRanges", laid_unicode_utf8_acceptRanges), ("unicode/utf8.first", laid_unicode_utf8_first)] }
def WireBackSaid : Prop := wireBackRow.holds Tryd.pinned (OpenSpec.ofChange wireBackSpec)

/-- ITS FALSE NEIGHBOUR: 'it returns false'. Refute it at one input. -/
def wireBackWrong : ChangeSpec := { name := "wireBack", fn := fun _ => fun
  | [d1, d2] => { results := [.lit (.bool false)], args := [d1, d2] }
  | _ => none }
def WireBackWrongFalsely : Prop := wireBackRow.holds Tryd.pinned (OpenSpec.ofChange wireBackWrong)

/-- 'variorumlaw25.WireCut': WHATEVER THE INPUT: true; the input reads as it did. -/
def wireCutSpec : ChangeSpec := { name := "wireCut", fn := fun _ => fun
  | [d1, d2, d3] => { results := [.lit (.bool true)], args := [d1, d2, d3] }
  | _ => none }
def wireCutRow : OpenClaim := { program := "ytmonlobfofkbdaadoor", sum := "d17ae5055b25ebc084e839919331bc763f1681ed0304330905e65dbcb58a478a", func := "variorum/variorumlaw25.WireCut", spec := "wireCut", inPlace := ["internal/bytealg.IndexByteString", "internal/bytealg.IndexString", "internal/bytealg.Compare"], unfollowed := true, recurses := true, named := ["unicode/utf8.first", "unicode/utf8.acceptRanges", "internal/bytealg.MaxLen"], apart := false, laid := [("unicode/utf8.acceptRanges", laid_unicode_utf8_acceptRanges), ("unicode/utf8.first", laid_unicode_utf8_first)] }
def WireCutSaid : Prop := wireCutRow.holds Tryd.pinned (OpenSpec.ofChange wireCutSpec)

/-- ITS FALSE NEIGHBOUR: 'it returns false'. Refute it at one input. -/
def wireCutWrong : ChangeSpec := { name := "wireCut", fn := fun _ => fun
  | [d1, d2, d3] => { results := [.lit (.bool false)], args := [d1, d2, d3] }
  | _ => none }
def WireCutWrongFalsely : Prop := wireCutRow.holds Tryd.pinned (OpenSpec.ofChange wireCutWrong)

/-- 'variorumlaw20.RefsApply': WHATEVER THE INPUT: true; the input reads as it did. -/
def refsApplySpec : ChangeSpec := { name := "refsApply", fn := fun _ => fun
  | [d1, d2, d3] => { results := [.lit (.bool true)], args := [d1, d2, d3] }
  | _ => none }
def refsApplyRow : OpenClaim := { program := "ytmonlobfofkbdaadoor", sum := "d17ae5055b25ebc084e839919331bc763f1681ed0304330905e65dbcb58a478a", func := "variorum/variorumlaw20.RefsApply", spec := "refsApply", inPlace := ["internal/bytealg.IndexByteString", "internal/bytealg.IndexString", "slices.overlaps[variorum/refs.Named]"], unfollowed := true, recurses := true, named := ["unicode/utf8.first", "unicode/utf8.acceptRanges", "internal/bytealg.MaxLen"], apart := false, laid := [("unicode/utf8.acceptRanges", laid_unicode_utf8_acceptRanges), ("unicode/utf8.first", laid_unicode_utf8_first)] }
def RefsApplySaid : Prop := refsApplyRow.holds Tryd.pinned (OpenSpec.ofChange refsApplySpec)

/-- ITS FALSE NEIGHBOUR: 'it returns false'. Refute it at one input. -/
def refsApplyWrong : ChangeSpec := { name := "refsApply", fn := fun _ => fun
  | [d1, d2, d3] => { results := [.lit (.bool false)], args := [d1, d2, d3] }
  | _ => none }
def RefsApplyWrongFalsely : Prop := refsApplyRow.holds Tryd.pinned (OpenSpec.ofChange refsApplyWrong)

/-- 'variorumlaw20.RefsWhole': WHATEVER THE INPUT: true; the input reads as it did. -/
def refsWholeSpec : ChangeSpec := { name := "refsWhole", fn := fun _ => fun
  | [d1, d2] => { results := [.lit (.bool true)], args := [d1, d2] }
  | _ => none }
def refsWholeRow : OpenClaim := { program := "ytmonlobfofkbdaadoor", sum := "d17ae5055b25ebc084e839919331bc763f1681ed0304330905e65dbcb58a478a", func := "variorum/variorumlaw20.RefsWhole", spec := "refsWhole", inPlace := ["internal/bytealg.IndexByteString", "internal/bytealg.IndexString", "slices.overlaps[variorum/refs.Named]"], unfollowed := true, recurses := true, named := ["unicode/utf8.first", "unicode/utf8.acceptRanges", "internal/bytealg.MaxLen"], apart := false, laid := [("unicode/utf8.acceptRanges", laid_unicode_utf8_acceptRanges), ("unicode/utf8.first", laid_unicode_utf8_first)] }
def RefsWholeSaid : Prop := refsWholeRow.holds Tryd.pinned (OpenSpec.ofChange refsWholeSpec)

/-- ITS FALSE NEIGHBOUR: 'it returns false'. Refute it at one input. -/
def refsWholeWrong : ChangeSpec := { name := "refsWhole", fn := fun _ => fun
  | [d1, d2] => { results := [.lit (.bool false)], args := [d1, d2] }
  | _ => none }
def RefsWholeWrongFalsely : Prop := refsWholeRow.holds Tryd.pinned (OpenSpec.ofChange refsWholeWrong)

/-- 'variorumlaw20.RefsMoved': WHATEVER THE INPUT: true; the input reads as it did. -/
def refsMovedSpec : ChangeSpec := { name := "refsMoved", fn := fun _ => fun
  | [d1, d2] => { results := [.lit (.bool true)], args := [d1, d2] }
  | _ => none }
def refsMovedRow : OpenClaim := { program := "ytmonlobfofkbdaadoor", sum := "d17ae5055b25ebc084e839919331bc763f1681ed0304330905e65dbcb58a478a", func := "variorum/variorumlaw20.RefsMoved", spec := "refsMoved", inPlace := ["internal/bytealg.IndexByteString", "internal/bytealg.IndexString", "slices.overlaps[variorum/refs.Named]"], unfollowed := true, recurses := true, named := ["unicode/utf8.first", "unicode/utf8.acceptRanges", "internal/bytealg.MaxLen"], apart := false, laid := [("unicode/utf8.acceptRanges", laid_unicode_utf8_acceptRanges), ("unicode/utf8.first", laid_unicode_utf8_first)] }
def RefsMovedSaid : Prop := refsMovedRow.holds Tryd.pinned (OpenSpec.ofChange refsMovedSpec)

/-- ITS FALSE NEIGHBOUR: 'it returns false'. Refute it at one input. -/
def refsMovedWrong : ChangeSpec := { name := "refsMoved", fn := fun _ => fun
  | [d1, d2] => { results := [.lit (.bool false)], args := [d1, d2] }
  | _ => none }
def RefsMovedWrongFalsely : Prop := refsMovedRow.holds Tryd.pinned (OpenSpec.ofChange refsMovedWrong)

/-- 'variorumlaw25.WireRefs': WHATEVER THE INPUT: true; the input reads as it did. -/
def wireRefsSpec : ChangeSpec := { name := "wireRefs", fn := fun _ => fun
  | [d] => { results := [.lit (.bool true)], args := [d] }
  | _ => none }
def wireRefsRow : OpenClaim := { program := "ytmonlobfofkbdaadoor", sum := "d17ae5055b25ebc084e839919331bc763f1681ed0304330905e65dbcb58a478a", func := "variorum/variorumlaw25.WireRefs", spec := "wireRefs", inPlace := ["internal/bytealg.IndexByteString", "internal/bytealg.IndexString", "internal/bytealg.Compare"], unfollowed := true, recurses := true, named := ["unicode/utf8.first", "unicode/utf8.acceptRanges", "internal/bytealg.MaxLen"], apart := false, laid := [("unicode/utf8.acceptRanges", laid_unicode_utf8_acceptRanges), ("unicode/utf8.first", laid_unicode_utf8_first)] }
def WireRefsSaid : Prop := wireRefsRow.holds Tryd.pinned (OpenSpec.ofChange wireRefsSpec)

/-- ITS FALSE NEIGHBOUR: 'it returns false'. Refute it at one input. -/
def wireRefsWrong : ChangeSpec := { name := "wireRefs", fn := fun _ => fun
  | [d] => { results := [.lit (.bool false)], args := [d] }
  | _ => none }
def WireRefsWrongFalsely : Prop := wireRefsRow.holds Tryd.pinned (OpenSpec.ofChange wireRefsWrong)

/-- 'variorumlaw25.WireTold': WHATEVER THE INPUT: true; the input reads as it did. -/
def wireToldSpec : ChangeSpec := { name := "wireTold", fn := fun _ => fun
  | [d1, d2] => { results := [.lit (.bool true)], args := [d1, d2] }
  | _ => none }
def wireToldRow : OpenClaim := { program := "ytmonlobfofkbdaadoor", sum := "d17ae5055b25ebc084e839919331bc763f1681ed0304330905e65dbcb58a478a", func := "variorum/variorumlaw25.WireTold", spec := "wireTold", inPlace := ["internal/bytealg.IndexByteString", "internal/bytealg.IndexString", "internal/bytealg.Compare"], unfollowed := true, recurses := true, named := ["unicode/utf8.first", "unicode/utf8.acceptRanges", "internal/bytealg.MaxLen"], apart := false, laid := [("unicode/utf8.acceptRanges", laid_unicode_utf8_acceptRanges), ("unicode/utf8.first", laid_unicode_utf8_first)] }
def WireToldSaid : Prop := wireToldRow.holds Tryd.pinned (OpenSpec.ofChange wireToldSpec)

/-- ITS FALSE NEIGHBOUR: 'it returns false'. Refute it at one input. -/
def wireToldWrong : ChangeSpec := { name := "wireTold", fn := fun _ => fun
  | [d1, d2] => { results := [.lit (.bool false)], args := [d1, d2] }
  | _ => none }
def WireToldWrongFalsely : Prop := wireToldRow.holds Tryd.pinned (OpenSpec.ofChange wireToldWrong)

/-- 'variorumlaw20.RefsLook': WHATEVER THE INPUT: true; the input reads as it did. -/
def refsLookSpec : ChangeSpec := { name := "refsLook", fn := fun _ => fun
  | [d1, d2] => { results := [.lit (.bool true)], args := [d1, d2] }
  | _ => none }
def refsLookRow : OpenClaim := { program := "ytmonlobfofkbdaadoor", sum := "d17ae5055b25ebc084e839919331bc763f1681ed0304330905e65dbcb58a478a", func := "variorum/variorumlaw20.RefsLook", spec := "refsLook", inPlace := ["internal/bytealg.IndexByteString", "internal/bytealg.IndexString", "internal/bytealg.Compare", "slices.overlaps[variorum/refs.Named]"], unfollowed := true, recurses := true, named := ["unicode/utf8.first", "unicode/utf8.acceptRanges", "internal/bytealg.MaxLen"], apart := false, laid := [("unicode/utf8.acceptRanges", laid_unicode_utf8_acceptRanges), ("unicode/utf8.first", laid_unicode_utf8_first)] }
def RefsLookSaid : Prop := refsLookRow.holds Tryd.pinned (OpenSpec.ofChange refsLookSpec)

/-- ITS FALSE NEIGHBOUR: 'it returns false'. Refute it at one input. -/
def refsLookWrong : ChangeSpec := { name := "refsLook", fn := fun _ => fun
  | [d1, d2] => { results := [.lit (.bool false)], args := [d1, d2] }
  | _ => none }
def RefsLookWrongFalsely : Prop := refsLookRow.holds Tryd.pinned (OpenSpec.ofChange refsLookWrong)

/-- 'variorumlaw20.RefsKept': WHATEVER THE INPUT: true; the input reads as it did. -/
def refsKeptSpec : ChangeSpec := { name := "refsKept", fn := fun _ => fun
  | [d1, d2] => { results := [.lit (.bool true)], args := [d1, d2] }
  | _ => none }
def refsKeptRow : OpenClaim := { program := "ytmonlobfofkbdaadoor", sum := "d17ae5055b25ebc084e839919331bc763f1681ed0304330905e65dbcb58a478a", func := "variorum/variorumlaw20.RefsKept", spec := "refsKept", inPlace := ["internal/bytealg.IndexByteString", "internal/bytealg.IndexString", "slices.overlaps[variorum/refs.Named]", "internal/bytealg.Compare"], unfollowed := true, recurses := true, named := ["unicode/utf8.first", "unicode/utf8.acceptRanges", "internal/bytealg.MaxLen"], apart := false, laid := [("unicode/utf8.acceptRanges", laid_unicode_utf8_acceptRanges), ("unicode/utf8.first", laid_unicode_utf8_first)] }
def RefsKeptSaid : Prop := refsKeptRow.holds Tryd.pinned (OpenSpec.ofChange refsKeptSpec)

/-- ITS FALSE NEIGHBOUR: 'it returns false'. Refute it at one input. -/
def refsKeptWrong : ChangeSpec := { name := "refsKept", fn := fun _ => fun
  | [d1, d2] => { results := [.lit (.bool false)], args := [d1, d2] }
  | _ => none }
def RefsKeptWrongFalsely : Prop := refsKeptRow.holds Tryd.pinned (OpenSpec.ofChange refsKeptWrong)

/-- 'variorumlaw20.RefsBack': WHATEVER THE INPUT: true; the input reads as it did. -/
def refsBackSpec : ChangeSpec := { name := "refsBack", fn := fun _ => fun
  | [d1, d2] => { results := [.lit (.bool true)], args := [d1, d2] }
  | _ => none }
def refsBackRow : OpenClaim := { program := "ytmonlobfofkbdaadoor", sum := "d17ae5055b25ebc084e839919331bc763f1681ed0304330905e65dbcb58a478a", func := "variorum/variorumlaw20.RefsBack", spec := "refsBack", inPlace := ["internal/bytealg.IndexByteString", "internal/bytealg.IndexString", "slices.overlaps[variorum/refs.Named]"], unfollowed := true, recurses := true, named := ["unicode/utf8.first", "unicode/utf8.acceptRanges", "internal/bytealg.MaxLen"], apart := false, laid := [("unicode/utf8.acceptRanges", laid_unicode_utf8_acceptRanges), ("unicode/utf8.first", laid_unicode_utf8_first)] }
def RefsBackSaid : Prop := refsBackRow.holds Tryd.pinned (OpenSpec.ofChange refsBackSpec)

/-- ITS FALSE NEIGHBOUR: 'it returns false'. Refute it at one input. -/
def refsBackWrong : ChangeSpec := { name := "refsBack", fn := fun _ => fun
  | [d1, d2] => { results := [.lit (.bool false)], args := [d1, d2] }
  | _ => none }
def RefsBackWrongFalsely : Prop := refsBackRow.holds Tryd.pinned (OpenSpec.ofChange refsBackWrong)

/- THE SECOND FORM. 'bulk': how many values and letters a reading holds, each counted each time it is reached (what is shared counts as often as it is met; a slice's spare places count too). A statement '..UptoSaid' is the law's where the arguments, and the package variables that the reading takes, are together of bulk at most 1048576: NARROWER than '..Said'. Prove '..Said' where nothing that the law and all that it calls make is longer than what came in: it says more and counts as full. Else prove '..UptoSaid'. A law counts once. -/
mutual
def uptoBulk {H : Type} : DataW H → Nat
  | .lit (.string bytes) => bytes.length + 1
  | .lit _ => 1
  | .nil => 1
  | .ptr d => uptoBulk d + 1
  | .slice elems spare => uptoBulkAll elems + uptoBulkAll spare + 1
  | .agg parts => uptoBulkAll parts + 1
  | .iface _ d => uptoBulk d + 1
  | .map entries => uptoBulkEntries entries + 1
  | .held _ => 1
def uptoBulkAll {H : Type} : List (DataW H) → Nat
  | [] => 0
  | d :: r => uptoBulk d + uptoBulkAll r
def uptoBulkEntries {H : Type} : List (Lit × DataW H) → Nat
  | [] => 0
  | x :: r => uptoBulkEntry x + uptoBulkEntries r
def uptoBulkEntry {H : Type} : Lit × DataW H → Nat
  | (.string bytes, d) => bytes.length + uptoBulk d + 1
  | (_, d) => uptoBulk d + 1
 end
def uptoSmall : (H : Type) → List (DataW H) → Bool := fun _ ds => decide (uptoBulkAll ds ≤ 1048576)
def OpenSpec.upto (s : _root_.Go.ChangeSpec) : _root_.Go.OpenSpec := { _root_.Go.OpenSpec.ofChange s with cond := some uptoSmall }

/-- 'variorumlaw25.WireWrites', WHERE WHAT IT READS IS OF BULK AT MOST 1048576: true; the input reads as it did. -/
def wireWritesUptoRow : OpenClaim := { program := "ytmonlobfofkbdaadoor", sum := "d17ae5055b25ebc084e839919331bc763f1681ed0304330905e65dbcb58a478a", func := "variorum/variorumlaw25.WireWrites", spec := "wireWrites", inPlace := ["internal/bytealg.IndexByteString", "internal/bytealg.IndexString", "internal/bytealg.Compare"], unfollowed := true, recurses := true, named := ["unicode/utf8.first", "unicode/utf8.acceptRanges", "internal/bytealg.MaxLen"], apart := false, laid := [("unicode/utf8.acceptRanges", laid_unicode_utf8_acceptRanges), ("unicode/utf8.first", laid_unicode_utf8_first)], narrowed := true }
def WireWritesUptoSaid : Prop := wireWritesUptoRow.holds Tryd.pinned (OpenSpec.upto wireWritesSpec)

/-- 'variorumlaw25.WireReads', WHERE WHAT IT READS IS OF BULK AT MOST 1048576: true; the input reads as it did. -/
def wireReadsUptoRow : OpenClaim := { program := "ytmonlobfofkbdaadoor", sum := "d17ae5055b25ebc084e839919331bc763f1681ed0304330905e65dbcb58a478a", func := "variorum/variorumlaw25.WireReads", spec := "wireReads", inPlace := ["internal/bytealg.IndexByteString", "internal/bytealg.IndexString", "internal/bytealg.Compare"], unfollowed := true, recurses := true, named := ["unicode/utf8.first", "unicode/utf8.acceptRanges", "internal/bytealg.MaxLen"], apart := false, laid := [("unicode/utf8.acceptRanges", laid_unicode_utf8_acceptRanges), ("unicode/utf8.first", laid_unicode_utf8_first)], narrowed := true }
def WireReadsUptoSaid : Prop := wireReadsUptoRow.holds Tryd.pinned (OpenSpec.upto wireReadsSpec)

/-- 'variorumlaw25.WireBack', WHERE WHAT IT READS IS OF BULK AT MOST 1048576: true; the input reads as it did. -/
def wireBackUptoRow : OpenClaim := { program := "ytmonlobfofkbdaadoor", sum := "d17ae5055b25ebc084e839919331bc763f1681ed0304330905e65dbcb58a478a", func := "variorum/variorumlaw25.WireBack", spec := "wireBack", inPlace := ["internal/bytealg.IndexByteString", "internal/bytealg.IndexString", "internal/bytealg.Compare"], unfollowed := true, recurses := true, named := ["unicode/utf8.first", "unicode/utf8.acceptRanges", "internal/bytealg.MaxLen"], apart := false, laid := [("unicode/utf8.acceptRanges", laid_unicode_utf8_acceptRanges), ("unicode/utf8.first", laid_unicode_utf8_first)], narrowed := true }
def WireBackUptoSaid : Prop := wireBackUptoRow.holds Tryd.pinned (OpenSpec.upto wireBackSpec)

/-- 'variorumlaw25.WireCut', WHERE WHAT IT READS IS OF BULK AT MOST 1048576: true; the input reads as it did. -/
def wireCutUptoRow : OpenClaim := { program := "ytmonlobfofkbdaadoor", sum := "d17ae5055b25ebc084e839919331bc763f1681ed0304330905e65dbcb58a478a", func := "variorum/variorumlaw25.WireCut", spec := "wireCut", inPlace := ["internal/bytealg.IndexByteString", "internal/bytealg.IndexString", "internal/bytealg.Compare"], unfollowed := true, recurses := true, named := ["unicode/utf8.first", "unicode/utf8.acceptRanges", "internal/bytealg.MaxLen"], apart := false, laid := [("unicode/utf8.acceptRanges", laid_unicode_utf8_acceptRanges), ("unicode/utf8.first", laid_unicode_utf8_first)], narrowed := true }
def WireCutUptoSaid : Prop := wireCutUptoRow.holds Tryd.pinned (OpenSpec.upto wireCutSpec)

/-- 'variorumlaw20.RefsApply', WHERE WHAT IT READS IS OF BULK AT MOST 1048576: true; the input reads as it did. -/
def refsApplyUptoRow : OpenClaim := { program := "ytmonlobfofkbdaadoor", sum := "d17ae5055b25ebc084e839919331bc763f1681ed0304330905e65dbcb58a478a", func := "variorum/variorumlaw20.RefsApply", spec := "refsApply", inPlace := ["internal/bytealg.IndexByteString", "internal/bytealg.IndexString", "slices.overlaps[variorum/refs.Named]"], unfollowed := true, recurses := true, named := ["unicode/utf8.first", "unicode/utf8.acceptRanges", "internal/bytealg.MaxLen"], apart := false, laid := [("unicode/utf8.acceptRanges", laid_unicode_utf8_acceptRanges), ("unicode/utf8.first", laid_unicode_utf8_first)], narrowed := true }
def RefsApplyUptoSaid : Prop := refsApplyUptoRow.holds Tryd.pinned (OpenSpec.upto refsApplySpec)

/-- 'variorumlaw20.RefsWhole', WHERE WHAT IT READS IS OF BULK AT MOST 1048576: true; the input reads as it did. -/
def refsWholeUptoRow : OpenClaim := { program := "ytmonlobfofkbdaadoor", sum := "d17ae5055b25ebc084e839919331bc763f1681ed0304330905e65dbcb58a478a", func := "variorum/variorumlaw20.RefsWhole", spec := "refsWhole", inPlace := ["internal/bytealg.IndexByteString", "internal/bytealg.IndexString", "slices.overlaps[variorum/refs.Named]"], unfollowed := true, recurses := true, named := ["unicode/utf8.first", "unicode/utf8.acceptRanges", "internal/bytealg.MaxLen"], apart := false, laid := [("unicode/utf8.acceptRanges", laid_unicode_utf8_acceptRanges), ("unicode/utf8.first", laid_unicode_utf8_first)], narrowed := true }
def RefsWholeUptoSaid : Prop := refsWholeUptoRow.holds Tryd.pinned (OpenSpec.upto refsWholeSpec)

/-- 'variorumlaw20.RefsMoved', WHERE WHAT IT READS IS OF BULK AT MOST 1048576: true; the input reads as it did. -/
def refsMovedUptoRow : OpenClaim := { program := "ytmonlobfofkbdaadoor", sum := "d17ae5055b25ebc084e839919331bc763f1681ed0304330905e65dbcb58a478a", func := "variorum/variorumlaw20.RefsMoved", spec := "refsMoved", inPlace := ["internal/bytealg.IndexByteString", "internal/bytealg.IndexString", "slices.overlaps[variorum/refs.Named]"], unfollowed := true, recurses := true, named := ["unicode/utf8.first", "unicode/utf8.acceptRanges", "internal/bytealg.MaxLen"], apart := false, laid := [("unicode/utf8.acceptRanges", laid_unicode_utf8_acceptRanges), ("unicode/utf8.first", laid_unicode_utf8_first)], narrowed := true }
def RefsMovedUptoSaid : Prop := refsMovedUptoRow.holds Tryd.pinned (OpenSpec.upto refsMovedSpec)

/-- 'variorumlaw25.WireRefs', WHERE WHAT IT READS IS OF BULK AT MOST 1048576: true; the input reads as it did. -/
def wireRefsUptoRow : OpenClaim := { program := "ytmonlobfofkbdaadoor", sum := "d17ae5055b25ebc084e839919331bc763f1681ed0304330905e65dbcb58a478a", func := "variorum/variorumlaw25.WireRefs", spec := "wireRefs", inPlace := ["internal/bytealg.IndexByteString", "internal/bytealg.IndexString", "internal/bytealg.Compare"], unfollowed := true, recurses := true, named := ["unicode/utf8.first", "unicode/utf8.acceptRanges", "internal/bytealg.MaxLen"], apart := false, laid := [("unicode/utf8.acceptRanges", laid_unicode_utf8_acceptRanges), ("unicode/utf8.first", laid_unicode_utf8_first)], narrowed := true }
def WireRefsUptoSaid : Prop := wireRefsUptoRow.holds Tryd.pinned (OpenSpec.upto wireRefsSpec)

/-- 'variorumlaw25.WireTold', WHERE WHAT IT READS IS OF BULK AT MOST 1048576: true; the input reads as it did. -/
def wireToldUptoRow : OpenClaim := { program := "ytmonlobfofkbdaadoor", sum := "d17ae5055b25ebc084e839919331bc763f1681ed0304330905e65dbcb58a478a", func := "variorum/variorumlaw25.WireTold", spec := "wireTold", inPlace := ["internal/bytealg.IndexByteString", "internal/bytealg.IndexString", "internal/bytealg.Compare"], unfollowed := true, recurses := true, named := ["unicode/utf8.first", "unicode/utf8.acceptRanges", "internal/bytealg.MaxLen"], apart := false, laid := [("unicode/utf8.acceptRanges", laid_unicode_utf8_acceptRanges), ("unicode/utf8.first", laid_unicode_utf8_first)], narrowed := true }
def WireToldUptoSaid : Prop := wireToldUptoRow.holds Tryd.pinned (OpenSpec.upto wireToldSpec)

/-- 'variorumlaw20.RefsLook', WHERE WHAT IT READS IS OF BULK AT MOST 1048576: true; the input reads as it did. -/
def refsLookUptoRow : OpenClaim := { program := "ytmonlobfofkbdaadoor", sum := "d17ae5055b25ebc084e839919331bc763f1681ed0304330905e65dbcb58a478a", func := "variorum/variorumlaw20.RefsLook", spec := "refsLook", inPlace := ["internal/bytealg.IndexByteString", "internal/bytealg.IndexString", "internal/bytealg.Compare", "slices.overlaps[variorum/refs.Named]"], unfollowed := true, recurses := true, named := ["unicode/utf8.first", "unicode/utf8.acceptRanges", "internal/bytealg.MaxLen"], apart := false, laid := [("unicode/utf8.acceptRanges", laid_unicode_utf8_acceptRanges), ("unicode/utf8.first", laid_unicode_utf8_first)], narrowed := true }
def RefsLookUptoSaid : Prop := refsLookUptoRow.holds Tryd.pinned (OpenSpec.upto refsLookSpec)

/-- 'variorumlaw20.RefsKept', WHERE WHAT IT READS IS OF BULK AT MOST 1048576: true; the input reads as it did. -/
def refsKeptUptoRow : OpenClaim := { program := "ytmonlobfofkbdaadoor", sum := "d17ae5055b25ebc084e839919331bc763f1681ed0304330905e65dbcb58a478a", func := "variorum/variorumlaw20.RefsKept", spec := "refsKept", inPlace := ["internal/bytealg.IndexByteString", "internal/bytealg.IndexString", "slices.overlaps[variorum/refs.Named]", "internal/bytealg.Compare"], unfollowed := true, recurses := true, named := ["unicode/utf8.first", "unicode/utf8.acceptRanges", "internal/bytealg.MaxLen"], apart := false, laid := [("unicode/utf8.acceptRanges", laid_unicode_utf8_acceptRanges), ("unicode/utf8.first", laid_unicode_utf8_first)], narrowed := true }
def RefsKeptUptoSaid : Prop := refsKeptUptoRow.holds Tryd.pinned (OpenSpec.upto refsKeptSpec)

/-- 'variorumlaw20.RefsBack', WHERE WHAT IT READS IS OF BULK AT MOST 1048576: true; the input reads as it did. -/
def refsBackUptoRow : OpenClaim := { program := "ytmonlobfofkbdaadoor", sum := "d17ae5055b25ebc084e839919331bc763f1681ed0304330905e65dbcb58a478a", func := "variorum/variorumlaw20.RefsBack", spec := "refsBack", inPlace := ["internal/bytealg.IndexByteString", "internal/bytealg.IndexString", "slices.overlaps[variorum/refs.Named]"], unfollowed := true, recurses := true, named := ["unicode/utf8.first", "unicode/utf8.acceptRanges", "internal/bytealg.MaxLen"], apart := false, laid := [("unicode/utf8.acceptRanges", laid_unicode_utf8_acceptRanges), ("unicode/utf8.first", laid_unicode_utf8_first)], narrowed := true }
def RefsBackUptoSaid : Prop := refsBackUptoRow.holds Tryd.pinned (OpenSpec.upto refsBackSpec)

end Rows
end Go.Proofs.YtmonlobfofkbdaaDoor
