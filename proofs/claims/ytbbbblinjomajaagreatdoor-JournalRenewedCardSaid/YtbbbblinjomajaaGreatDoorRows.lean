/-
  NARROWER THAN 'FOR EVERY INPUT', by the rows' own cells (each row's printed sentence says how): JournalFull: laid · JournalNil: laid · JournalTorn: laid · JournalRenewed: laid · JournalPlays: laid.
  DERIVED. THE GIVEN ROWS OF THIS SEAT. 5 by the template 'for every input the law returns true; each argument reads behind the call as it read before'; 0 by the template 'total and deterministic' (their statements: YtbbbblinjomajaaGreatDoorTotals.lean).
  GIVEN WITH THE SEED: the statements are not yours to turn. If you find one false, say at which input.
  Laid BY PROGRAM, IN A SANDBOX (cutbox-rows.mjs): the forced cells as the released guide's own fill.sh prints them over the translation 9160751e60df806f… (all of the seat's roots in one cut). By AI agents, Wed Nov 11 2026. No macro, syntax, notation, axiom, sorry.
-/
import Derived.Test.YtbbbblinjomajaaGreatDoorChecked
import GoSem.PinnedTables
import GoSem.Claim
import GoSem.ClaimJoined
import GoSem.ClaimMapViews
import Derived.JoinedTies
import Derived.KernelRfl
namespace Go.Proofs.YtbbbblinjomajaaGreatDoor
/- THE CELL 'sum', in the pinned program and in every row, IS THE sha256 OF THE DUMP (.gsa) THAT YtbbbblinjomajaaGreatDoorProg.lean LOADS. Nothing in Lean hashes anything: it is a label: what it is worth is what the hold of that sum in a sandbox is worth. -/
noncomputable def Tryz.pinned : Pinned := { name := "ytbbbblinjomajaagreatdoor", sum := "9160751e60df806f3bb00c0e2dbf89522bfd92a66b96b24925e99cd395d0f534", checked := Tryz.checked }
namespace Rows
def none {H : Type} : Left H := { results := [], args := [] }

/- WHAT THE LISTED PACKAGE-LEVEL VARIABLES READ AS WHEN THE CALL BEGINS. Each datum BY PROGRAM (the guide's laid-datum.mjs) off the statement by which the dump's own 'gosem.cut.vars' lays the variable. In a bare row this is a premise. The card (YtbbbblinjomajaaGreatDoorCards.lean) ties it to the program's text. -/
def laid_unicode_utf8_acceptRanges {H : Type} : DataW H := .agg [.agg [.lit (.int .u8 128), .lit (.int .u8 191)], .agg [.lit (.int .u8 160), .lit (.int .u8 191)], .agg [.lit (.int .u8 128), .lit (.int .u8 159)], .agg [.lit (.int .u8 144), .lit (.int .u8 191)], .agg [.lit (.int .u8 128), .lit (.int .u8 143)], .agg [.lit (.int .u8 0), .lit (.int .u8 0)], .agg [.lit (.int .u8 0), .lit (.int .u8 0)], .agg [.lit (.int .u8 0), .lit (.int .u8 0)], .agg [.lit (.int .u8 0), .lit (.int .u8 0)], .agg [.lit (.int .u8 0), .lit (.int .u8 0)], .agg [.lit (.int .u8 0), .lit (.int .u8 0)], .agg [.lit (.int .u8 0), .lit (.int .u8 0)], .agg [.lit (.int .u8 0), .lit (.int .u8 0)], .agg [.lit (.int .u8 0), .lit (.int .u8 0)], .agg [.lit (.int .u8 0), .lit (.int .u8 0)], .agg [.lit (.int .u8 0), .lit (.int .u8 0)]]
/-- One of Go's own tables, pinned by name: the form's constant. -/
def laid_unicode_utf8_first : DataW Unit := Go.Pinned.utf8First

/-- 'variorumlaw21.JournalFull': WHATEVER THE INPUT: true; the input reads as it did. -/
def journalFullSpec : ChangeSpec := { name := "journalFull", fn := fun _ => fun
  | [d1, d2] => { results := [.lit (.bool true)], args := [d1, d2] }
  | _ => none }
def journalFullRow : OpenClaim := { program := "ytbbbblinjomajaagreatdoor", sum := "9160751e60df806f3bb00c0e2dbf89522bfd92a66b96b24925e99cd395d0f534", func := "variorum/variorumlaw21.JournalFull", spec := "journalFull", inPlace := ["internal/bytealg.IndexByteString", "internal/bytealg.IndexString", "slices.overlaps[variorum/refs.Named]", "maps.clone"], unfollowed := true, recurses := true, named := ["unicode/utf8.first", "unicode/utf8.acceptRanges", "internal/bytealg.MaxLen"], apart := false, laid := [("unicode/utf8.acceptRanges", laid_unicode_utf8_acceptRanges), ("unicode/utf8.first", laid_unicode_utf8_first)] }
def JournalFullSaid : Prop := journalFullRow.holds Tryz.pinned (OpenSpec.ofChange journalFullSpec)

/-- ITS FALSE NEIGHBOUR: 'it returns false'. Refute it at one input. -/
def journalFullWrong : ChangeSpec := { name := "journalFull", fn := fun _ => fun
  | [d1, d2] => { results := [.lit (.bool false)], args := [d1, d2] }
  | _ => none }
def JournalFullWrongFalsely : Prop := journalFullRow.holds Tryz.pinned (OpenSpec.ofChange journalFullWrong)

/-- 'variorumlaw21.JournalNil': WHATEVER THE INPUT: true; the input reads as it did. -/
def journalNilSpec : ChangeSpec := { name := "journalNil", fn := fun _ => fun
  | [d] => { results := [.lit (.bool true)], args := [d] }
  | _ => none }
def journalNilRow : OpenClaim := { program := "ytbbbblinjomajaagreatdoor", sum := "9160751e60df806f3bb00c0e2dbf89522bfd92a66b96b24925e99cd395d0f534", func := "variorum/variorumlaw21.JournalNil", spec := "journalNil", inPlace := ["internal/bytealg.IndexByteString", "internal/bytealg.IndexString", "slices.overlaps[variorum/refs.Named]", "maps.clone"], unfollowed := true, recurses := true, named := ["unicode/utf8.first", "unicode/utf8.acceptRanges", "internal/bytealg.MaxLen"], apart := false, laid := [("unicode/utf8.acceptRanges", laid_unicode_utf8_acceptRanges), ("unicode/utf8.first", laid_unicode_utf8_first)] }
def JournalNilSaid : Prop := journalNilRow.holds Tryz.pinned (OpenSpec.ofChange journalNilSpec)

/-- ITS FALSE NEIGHBOUR: 'it returns false'. Refute it at one input. -/
def journalNilWrong : ChangeSpec := { name := "journalNil", fn := fun _ => fun
  | [d] => { results := [.lit (.bool false)], args := [d] }
  | _ => none }
def JournalNilWrongFalsely : Prop := journalNilRow.holds Tryz.pinned (OpenSpec.ofChange journalNilWrong)

/-- 'variorumlaw21.JournalTorn': WHATEVER THE INPUT: true; the input reads as it did. -/
def journalTornSpec : ChangeSpec := { name := "journalTorn", fn := fun _ => fun
  | [d] => { results := [.lit (.bool true)], args := [d] }
  | _ => none }
def journalTornRow : OpenClaim := { program := "ytbbbblinjomajaagreatdoor", sum := "9160751e60df806f3bb00c0e2dbf89522bfd92a66b96b24925e99cd395d0f534", func := "variorum/variorumlaw21.JournalTorn", spec := "journalTorn", inPlace := ["internal/bytealg.IndexByteString", "internal/bytealg.IndexString", "slices.overlaps[variorum/refs.Named]", "maps.clone"], unfollowed := true, recurses := true, named := ["unicode/utf8.first", "unicode/utf8.acceptRanges", "internal/bytealg.MaxLen"], apart := false, laid := [("unicode/utf8.acceptRanges", laid_unicode_utf8_acceptRanges), ("unicode/utf8.first", laid_unicode_utf8_first)] }
def JournalTornSaid : Prop := journalTornRow.holds Tryz.pinned (OpenSpec.ofChange journalTornSpec)

/-- ITS FALSE NEIGHBOUR: 'it returns false'. Refute it at one input. -/
def journalTornWrong : ChangeSpec := { name := "journalTorn", fn := fun _ => fun
  | [d] => { results := [.lit (.bool false)], args := [d] }
  | _ => none }
def JournalTornWrongFalsely : Prop := journalTornRow.holds Tryz.pinned (OpenSpec.ofChange journalTornWrong)

/-- 'variorumlaw21.JournalRenewed': WHATEVER THE INPUT: true; the input reads as it did. -/
def journalRenewedSpec : ChangeSpec := { name := "journalRenewed", fn := fun _ => fun
  | [d] => { results := [.lit (.bool true)], args := [d] }
  | _ => none }
def journalRenewedRow : OpenClaim := { program := "ytbbbblinjomajaagreatdoor", sum := "9160751e60df806f3bb00c0e2dbf89522bfd92a66b96b24925e99cd395d0f534", func := "variorum/variorumlaw21.JournalRenewed", spec := "journalRenewed", inPlace := ["internal/bytealg.IndexByteString", "internal/bytealg.IndexString", "slices.overlaps[variorum/refs.Named]", "maps.clone"], unfollowed := true, recurses := true, named := ["unicode/utf8.first", "unicode/utf8.acceptRanges", "internal/bytealg.MaxLen"], apart := false, laid := [("unicode/utf8.acceptRanges", laid_unicode_utf8_acceptRanges), ("unicode/utf8.first", laid_unicode_utf8_first)] }
def JournalRenewedSaid : Prop := journalRenewedRow.holds Tryz.pinned (OpenSpec.ofChange journalRenewedSpec)

/-- ITS FALSE NEIGHBOUR: 'it returns false'. Refute it at one input. -/
def journalRenewedWrong : ChangeSpec := { name := "journalRenewed", fn := fun _ => fun
  | [d] => { results := [.lit (.bool false)], args := [d] }
  | _ => none }
def JournalRenewedWrongFalsely : Prop := journalRenewedRow.holds Tryz.pinned (OpenSpec.ofChange journalRenewedWrong)

/-- 'variorumlaw21.JournalPlays': WHATEVER THE INPUT: true; the input reads as it did. -/
def journalPlaysSpec : ChangeSpec := { name := "journalPlays", fn := fun _ => fun
  | [d1, d2] => { results := [.lit (.bool true)], args := [d1, d2] }
  | _ => none }
def journalPlaysRow : OpenClaim := { program := "ytbbbblinjomajaagreatdoor", sum := "9160751e60df806f3bb00c0e2dbf89522bfd92a66b96b24925e99cd395d0f534", func := "variorum/variorumlaw21.JournalPlays", spec := "journalPlays", inPlace := ["internal/bytealg.IndexByteString", "internal/bytealg.IndexString", "slices.overlaps[variorum/refs.Named]", "maps.clone"], unfollowed := true, recurses := true, named := ["unicode/utf8.first", "unicode/utf8.acceptRanges", "internal/bytealg.MaxLen"], apart := false, laid := [("unicode/utf8.acceptRanges", laid_unicode_utf8_acceptRanges), ("unicode/utf8.first", laid_unicode_utf8_first)] }
def JournalPlaysSaid : Prop := journalPlaysRow.holds Tryz.pinned (OpenSpec.ofChange journalPlaysSpec)

/-- ITS FALSE NEIGHBOUR: 'it returns false'. Refute it at one input. -/
def journalPlaysWrong : ChangeSpec := { name := "journalPlays", fn := fun _ => fun
  | [d1, d2] => { results := [.lit (.bool false)], args := [d1, d2] }
  | _ => none }
def JournalPlaysWrongFalsely : Prop := journalPlaysRow.holds Tryz.pinned (OpenSpec.ofChange journalPlaysWrong)

/- THE SECOND FORM. 'bulk': how many values and letters a reading holds, each counted each time it is reached (what is shared counts as often as it is met; a slice's spare places count too). A statement '..UptoSaid' is the law's where the arguments, and the package variables that the reading takes, are together of bulk at most 1048576: NARROWER than '..Said'. Prove '..Said' where nothing that the law and all that it calls make is longer than what came in: it says more and counts as full. Else prove '..UptoSaid'. A law counts once. -/
mutual
def uptoBulk {H : Type} : DataW H → Nat
  | .lit (.string bytes) => bytes.length + 1
  | .lit _ => 1
  | .nil => 1
  | .ptr d => uptoBulk d + 1
  | .slice elems spare => uptoBulkAll elems + uptoBulkAll spare + 1
  | .agg parts => uptoBulkAll parts + 1
  | .iface _ d => uptoBulk d + 1
  | .map entries => uptoBulkEntries entries + 1
  | .held _ => 1
def uptoBulkAll {H : Type} : List (DataW H) → Nat
  | [] => 0
  | d :: r => uptoBulk d + uptoBulkAll r
def uptoBulkEntries {H : Type} : List (Lit × DataW H) → Nat
  | [] => 0
  | x :: r => uptoBulkEntry x + uptoBulkEntries r
def uptoBulkEntry {H : Type} : Lit × DataW H → Nat
  | (.string bytes, d) => bytes.length + uptoBulk d + 1
  | (_, d) => uptoBulk d + 1
 end
def uptoSmall : (H : Type) → List (DataW H) → Bool := fun _ ds => decide (uptoBulkAll ds ≤ 1048576)
def OpenSpec.upto (s : _root_.Go.ChangeSpec) : _root_.Go.OpenSpec := { _root_.Go.OpenSpec.ofChange s with cond := some uptoSmall }

/-- 'variorumlaw21.JournalFull', WHERE WHAT IT READS IS OF BULK AT MOST 1048576: true; the input reads as it did. -/
def journalFullUptoRow : OpenClaim := { program := "ytbbbblinjomajaagreatdoor", sum := "9160751e60df806f3bb00c0e2dbf89522bfd92a66b96b24925e99cd395d0f534", func := "variorum/variorumlaw21.JournalFull", spec := "journalFull", inPlace := ["internal/bytealg.IndexByteString", "internal/bytealg.IndexString", "slices.overlaps[variorum/refs.Named]", "maps.clone"], unfollowed := true, recurses := true, named := ["unicode/utf8.first", "unicode/utf8.acceptRanges", "internal/bytealg.MaxLen"], apart := false, laid := [("unicode/utf8.acceptRanges", laid_unicode_utf8_acceptRanges), ("unicode/utf8.first", laid_unicode_utf8_first)], narrowed := true }
def JournalFullUptoSaid : Prop := journalFullUptoRow.holds Tryz.pinned (OpenSpec.upto journalFullSpec)

/-- 'variorumlaw21.JournalNil', WHERE WHAT IT READS IS OF BULK AT MOST 1048576: true; the input reads as it did. -/
def journalNilUptoRow : OpenClaim := { program := "ytbbbblinjomajaagreatdoor", sum := "9160751e60df806f3bb00c0e2dbf89522bfd92a66b96b24925e99cd395d0f534", func := "variorum/variorumlaw21.JournalNil", spec := "journalNil", inPlace := ["internal/bytealg.IndexByteString", "internal/bytealg.IndexString", "slices.overlaps[variorum/refs.Named]", "maps.clone"], unfollowed := true, recurses := true, named := ["unicode/utf8.first", "unicode/utf8.acceptRanges", "internal/bytealg.MaxLen"], apart := false, laid := [("unicode/utf8.acceptRanges", laid_unicode_utf8_acceptRanges), ("unicode/utf8.first", laid_unicode_utf8_first)], narrowed := true }
def JournalNilUptoSaid : Prop := journalNilUptoRow.holds Tryz.pinned (OpenSpec.upto journalNilSpec)

/-- 'variorumlaw21.JournalTorn', WHERE WHAT IT READS IS OF BULK AT MOST 1048576: true; the input reads as it did. -/
def journalTornUptoRow : OpenClaim := { program := "ytbbbblinjomajaagreatdoor", sum := "9160751e60df806f3bb00c0e2dbf89522bfd92a66b96b24925e99cd395d0f534", func := "variorum/variorumlaw21.JournalTorn", spec := "journalTorn", inPlace := ["internal/bytealg.IndexByteString", "internal/bytealg.IndexString", "slices.overlaps[variorum/refs.Named]", "maps.clone"], unfollowed := true, recurses := true, named := ["unicode/utf8.first", "unicode/utf8.acceptRanges", "internal/bytealg.MaxLen"], apart := false, laid := [("unicode/utf8.acceptRanges", laid_unicode_utf8_acceptRanges), ("unicode/utf8.first", laid_unicode_utf8_first)], narrowed := true }
def JournalTornUptoSaid : Prop := journalTornUptoRow.holds Tryz.pinned (OpenSpec.upto journalTornSpec)

/-- 'variorumlaw21.JournalRenewed', WHERE WHAT IT READS IS OF BULK AT MOST 1048576: true; the input reads as it did. -/
def journalRenewedUptoRow : OpenClaim := { program := "ytbbbblinjomajaagreatdoor", sum := "9160751e60df806f3bb00c0e2dbf89522bfd92a66b96b24925e99cd395d0f534", func := "variorum/variorumlaw21.JournalRenewed", spec := "journalRenewed", inPlace := ["internal/bytealg.IndexByteString", "internal/bytealg.IndexString", "slices.overlaps[variorum/refs.Named]", "maps.clone"], unfollowed := true, recurses := true, named := ["unicode/utf8.first", "unicode/utf8.acceptRanges", "internal/bytealg.MaxLen"], apart := false, laid := [("unicode/utf8.acceptRanges", laid_unicode_utf8_acceptRanges), ("unicode/utf8.first", laid_unicode_utf8_first)], narrowed := true }
def JournalRenewedUptoSaid : Prop := journalRenewedUptoRow.holds Tryz.pinned (OpenSpec.upto journalRenewedSpec)

/-- 'variorumlaw21.JournalPlays', WHERE WHAT IT READS IS OF BULK AT MOST 1048576: true; the input reads as it did. -/
def journalPlaysUptoRow : OpenClaim := { program := "ytbbbblinjomajaagreatdoor", sum := "9160751e60df806f3bb00c0e2dbf89522bfd92a66b96b24925e99cd395d0f534", func := "variorum/variorumlaw21.JournalPlays", spec := "journalPlays", inPlace := ["internal/bytealg.IndexByteString", "internal/bytealg.IndexString", "slices.overlaps[variorum/refs.Named]", "maps.clone"], unfollowed := true, recurses := true, named := ["unicode/utf8.first", "unicode/utf8.acceptRanges", "internal/bytealg.MaxLen"], apart := false, laid := [("unicode/utf8.acceptRanges", laid_unicode_utf8_acceptRanges), ("unicode/utf8.first", laid_unicode_utf8_first)], narrowed := true }
def JournalPlaysUptoSaid : Prop := journalPlaysUptoRow.holds Tryz.pinned (OpenSpec.upto journalPlaysSpec)

end Rows
end Go.Proofs.YtbbbblinjomajaaGreatDoor
