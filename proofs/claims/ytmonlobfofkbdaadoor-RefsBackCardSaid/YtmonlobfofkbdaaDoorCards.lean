/-
  DERIVED. GIVEN WITH THE SEED: THE CARDS: each row of YtmonlobfofkbdaaDoorRows.lean that lists a variable, with what it lists TIED to the program's text (the seventh form; the later family's looks); each row that meets fmt, with fmt's text TOLD by the authors' own Lean function (tested against real Go, not proved from fmt's source: count such statements apart). THE CARD IS WHAT COUNTS. Prove the row's statement (the work); the ties are given (YtmonlobfofkbdaaDoorTie.lean); close each card by the builder's one call (the guide's Derived/Test/ToyasCard.lean, 'card_holds'). Laid BY PROGRAM, IN A SANDBOX (cutbox-door.mjs). By AI agents, Wed Nov 11 2026. No macro, syntax, notation, axiom, sorry.
-/
import Derived.Test.YtmonlobfofkbdaaDoorRows
import GoSem.ClaimSeven
namespace Go.Proofs.YtmonlobfofkbdaaDoor
namespace Rows

/-- THE TIED CARD OF 'variorumlaw25.WireWrites'. -/
def wireWritesCard : Claim7 := { stood := { row := wireWritesRow, standIns := [], harness := (true, "e850863e14f1fc74417acc9468c0c753110430ea3af2e8ca72d63026738f8122"), looks := true }, kinds := [], alts := [], laidByText := true, laidKinds := [.data, .pinned], laidTests := true, laidLooks := .later }
def WireWritesCardSaid : Prop := Claim7.holds Tryd.pinned (.plain (OpenSpec.ofChange wireWritesSpec)) wireWritesCard

/-- THE TIED CARD OF 'variorumlaw25.WireReads'. -/
def wireReadsCard : Claim7 := { stood := { row := wireReadsRow, standIns := [], harness := (true, "e850863e14f1fc74417acc9468c0c753110430ea3af2e8ca72d63026738f8122"), looks := true }, kinds := [], alts := [], laidByText := true, laidKinds := [.data, .pinned], laidTests := true, laidLooks := .later }
def WireReadsCardSaid : Prop := Claim7.holds Tryd.pinned (.plain (OpenSpec.ofChange wireReadsSpec)) wireReadsCard

/-- THE TIED CARD OF 'variorumlaw25.WireBack'. -/
def wireBackCard : Claim7 := { stood := { row := wireBackRow, standIns := [], harness := (true, "e850863e14f1fc74417acc9468c0c753110430ea3af2e8ca72d63026738f8122"), looks := true }, kinds := [], alts := [], laidByText := true, laidKinds := [.data, .pinned], laidTests := true, laidLooks := .later }
def WireBackCardSaid : Prop := Claim7.holds Tryd.pinned (.plain (OpenSpec.ofChange wireBackSpec)) wireBackCard

/-- THE TIED CARD OF 'variorumlaw25.WireCut'. -/
def wireCutCard : Claim7 := { stood := { row := wireCutRow, standIns := [], harness := (true, "e850863e14f1fc74417acc9468c0c753110430ea3af2e8ca72d63026738f8122"), looks := true }, kinds := [], alts := [], laidByText := true, laidKinds := [.data, .pinned], laidTests := true, laidLooks := .later }
def WireCutCardSaid : Prop := Claim7.holds Tryd.pinned (.plain (OpenSpec.ofChange wireCutSpec)) wireCutCard

/-- THE TIED CARD OF 'variorumlaw20.RefsApply'. -/
def refsApplyCard : Claim7 := { stood := { row := refsApplyRow, standIns := [], harness := (true, "e850863e14f1fc74417acc9468c0c753110430ea3af2e8ca72d63026738f8122"), looks := true }, kinds := [], alts := [], laidByText := true, laidKinds := [.data, .pinned], laidTests := true, laidLooks := .later }
def RefsApplyCardSaid : Prop := Claim7.holds Tryd.pinned (.plain (OpenSpec.ofChange refsApplySpec)) refsApplyCard

/-- THE TIED CARD OF 'variorumlaw20.RefsWhole'. -/
def refsWholeCard : Claim7 := { stood := { row := refsWholeRow, standIns := [], harness := (true, "e850863e14f1fc74417acc9468c0c753110430ea3af2e8ca72d63026738f8122"), looks := true }, kinds := [], alts := [], laidByText := true, laidKinds := [.data, .pinned], laidTests := true, laidLooks := .later }
def RefsWholeCardSaid : Prop := Claim7.holds Tryd.pinned (.plain (OpenSpec.ofChange refsWholeSpec)) refsWholeCard

/-- THE TIED CARD OF 'variorumlaw20.RefsMoved'. -/
def refsMovedCard : Claim7 := { stood := { row := refsMovedRow, standIns := [], harness := (true, "e850863e14f1fc74417acc9468c0c753110430ea3af2e8ca72d63026738f8122"), looks := true }, kinds := [], alts := [], laidByText := true, laidKinds := [.data, .pinned], laidTests := true, laidLooks := .later }
def RefsMovedCardSaid : Prop := Claim7.holds Tryd.pinned (.plain (OpenSpec.ofChange refsMovedSpec)) refsMovedCard

/-- THE TIED CARD OF 'variorumlaw25.WireRefs'. -/
def wireRefsCard : Claim7 := { stood := { row := wireRefsRow, standIns := [], harness := (true, "e850863e14f1fc74417acc9468c0c753110430ea3af2e8ca72d63026738f8122"), looks := true }, kinds := [], alts := [], laidByText := true, laidKinds := [.data, .pinned], laidTests := true, laidLooks := .later }
def WireRefsCardSaid : Prop := Claim7.holds Tryd.pinned (.plain (OpenSpec.ofChange wireRefsSpec)) wireRefsCard

/-- THE TIED CARD OF 'variorumlaw25.WireTold'. -/
def wireToldCard : Claim7 := { stood := { row := wireToldRow, standIns := [], harness := (true, "e850863e14f1fc74417acc9468c0c753110430ea3af2e8ca72d63026738f8122"), looks := true }, kinds := [], alts := [], laidByText := true, laidKinds := [.data, .pinned], laidTests := true, laidLooks := .later }
def WireToldCardSaid : Prop := Claim7.holds Tryd.pinned (.plain (OpenSpec.ofChange wireToldSpec)) wireToldCard

/-- THE TIED CARD OF 'variorumlaw20.RefsLook'. -/
def refsLookCard : Claim7 := { stood := { row := refsLookRow, standIns := [], harness := (true, "e850863e14f1fc74417acc9468c0c753110430ea3af2e8ca72d63026738f8122"), looks := true }, kinds := [], alts := [], laidByText := true, laidKinds := [.data, .pinned], laidTests := true, laidLooks := .later }
def RefsLookCardSaid : Prop := Claim7.holds Tryd.pinned (.plain (OpenSpec.ofChange refsLookSpec)) refsLookCard

/-- THE TIED CARD OF 'variorumlaw20.RefsKept'. -/
def refsKeptCard : Claim7 := { stood := { row := refsKeptRow, standIns := [], harness := (true, "e850863e14f1fc74417acc9468c0c753110430ea3af2e8ca72d63026738f8122"), looks := true }, kinds := [], alts := [], laidByText := true, laidKinds := [.data, .pinned], laidTests := true, laidLooks := .later }
def RefsKeptCardSaid : Prop := Claim7.holds Tryd.pinned (.plain (OpenSpec.ofChange refsKeptSpec)) refsKeptCard

/-- THE TIED CARD OF 'variorumlaw20.RefsBack'. -/
def refsBackCard : Claim7 := { stood := { row := refsBackRow, standIns := [], harness := (true, "e850863e14f1fc74417acc9468c0c753110430ea3af2e8ca72d63026738f8122"), looks := true }, kinds := [], alts := [], laidByText := true, laidKinds := [.data, .pinned], laidTests := true, laidLooks := .later }
def RefsBackCardSaid : Prop := Claim7.holds Tryd.pinned (.plain (OpenSpec.ofChange refsBackSpec)) refsBackCard

/-- THE SECOND FORM's CARD OF 'variorumlaw25.WireWrites'. -/
def wireWritesUptoCard : Claim7 := { stood := { row := wireWritesUptoRow, standIns := [], harness := (true, "e850863e14f1fc74417acc9468c0c753110430ea3af2e8ca72d63026738f8122"), looks := true }, kinds := [], alts := [], laidByText := true, laidKinds := [.data, .pinned], laidTests := true, laidLooks := .later }
def WireWritesUptoCardSaid : Prop := Claim7.holds Tryd.pinned (.plain (OpenSpec.upto wireWritesSpec)) wireWritesUptoCard

/-- THE SECOND FORM's CARD OF 'variorumlaw25.WireReads'. -/
def wireReadsUptoCard : Claim7 := { stood := { row := wireReadsUptoRow, standIns := [], harness := (true, "e850863e14f1fc74417acc9468c0c753110430ea3af2e8ca72d63026738f8122"), looks := true }, kinds := [], alts := [], laidByText := true, laidKinds := [.data, .pinned], laidTests := true, laidLooks := .later }
def WireReadsUptoCardSaid : Prop := Claim7.holds Tryd.pinned (.plain (OpenSpec.upto wireReadsSpec)) wireReadsUptoCard

/-- THE SECOND FORM's CARD OF 'variorumlaw25.WireBack'. -/
def wireBackUptoCard : Claim7 := { stood := { row := wireBackUptoRow, standIns := [], harness := (true, "e850863e14f1fc74417acc9468c0c753110430ea3af2e8ca72d63026738f8122"), looks := true }, kinds := [], alts := [], laidByText := true, laidKinds := [.data, .pinned], laidTests := true, laidLooks := .later }
def WireBackUptoCardSaid : Prop := Claim7.holds Tryd.pinned (.plain (OpenSpec.upto wireBackSpec)) wireBackUptoCard

/-- THE SECOND FORM's CARD OF 'variorumlaw25.WireCut'. -/
def wireCutUptoCard : Claim7 := { stood := { row := wireCutUptoRow, standIns := [], harness := (true, "e850863e14f1fc74417acc9468c0c753110430ea3af2e8ca72d63026738f8122"), looks := true }, kinds := [], alts := [], laidByText := true, laidKinds := [.data, .pinned], laidTests := true, laidLooks := .later }
def WireCutUptoCardSaid : Prop := Claim7.holds Tryd.pinned (.plain (OpenSpec.upto wireCutSpec)) wireCutUptoCard

/-- THE SECOND FORM's CARD OF 'variorumlaw20.RefsApply'. -/
def refsApplyUptoCard : Claim7 := { stood := { row := refsApplyUptoRow, standIns := [], harness := (true, "e850863e14f1fc74417acc9468c0c753110430ea3af2e8ca72d63026738f8122"), looks := true }, kinds := [], alts := [], laidByText := true, laidKinds := [.data, .pinned], laidTests := true, laidLooks := .later }
def RefsApplyUptoCardSaid : Prop := Claim7.holds Tryd.pinned (.plain (OpenSpec.upto refsApplySpec)) refsApplyUptoCard

/-- THE SECOND FORM's CARD OF 'variorumlaw20.RefsWhole'. -/
def refsWholeUptoCard : Claim7 := { stood := { row := refsWholeUptoRow, standIns := [], harness := (true, "e850863e14f1fc74417acc9468c0c753110430ea3af2e8ca72d63026738f8122"), looks := true }, kinds := [], alts := [], laidByText := true, laidKinds := [.data, .pinned], laidTests := true, laidLooks := .later }
def RefsWholeUptoCardSaid : Prop := Claim7.holds Tryd.pinned (.plain (OpenSpec.upto refsWholeSpec)) refsWholeUptoCard

/-- THE SECOND FORM's CARD OF 'variorumlaw20.RefsMoved'. -/
def refsMovedUptoCard : Claim7 := { stood := { row := refsMovedUptoRow, standIns := [], harness := (true, "e850863e14f1fc74417acc9468c0c753110430ea3af2e8ca72d63026738f8122"), looks := true }, kinds := [], alts := [], laidByText := true, laidKinds := [.data, .pinned], laidTests := true, laidLooks := .later }
def RefsMovedUptoCardSaid : Prop := Claim7.holds Tryd.pinned (.plain (OpenSpec.upto refsMovedSpec)) refsMovedUptoCard

/-- THE SECOND FORM's CARD OF 'variorumlaw25.WireRefs'. -/
def wireRefsUptoCard : Claim7 := { stood := { row := wireRefsUptoRow, standIns := [], harness := (true, "e850863e14f1fc74417acc9468c0c753110430ea3af2e8ca72d63026738f8122"), looks := true }, kinds := [], alts := [], laidByText := true, laidKinds := [.data, .pinned], laidTests := true, laidLooks := .later }
def WireRefsUptoCardSaid : Prop := Claim7.holds Tryd.pinned (.plain (OpenSpec.upto wireRefsSpec)) wireRefsUptoCard

/-- THE SECOND FORM's CARD OF 'variorumlaw25.WireTold'. -/
def wireToldUptoCard : Claim7 := { stood := { row := wireToldUptoRow, standIns := [], harness := (true, "e850863e14f1fc74417acc9468c0c753110430ea3af2e8ca72d63026738f8122"), looks := true }, kinds := [], alts := [], laidByText := true, laidKinds := [.data, .pinned], laidTests := true, laidLooks := .later }
def WireToldUptoCardSaid : Prop := Claim7.holds Tryd.pinned (.plain (OpenSpec.upto wireToldSpec)) wireToldUptoCard

/-- THE SECOND FORM's CARD OF 'variorumlaw20.RefsLook'. -/
def refsLookUptoCard : Claim7 := { stood := { row := refsLookUptoRow, standIns := [], harness := (true, "e850863e14f1fc74417acc9468c0c753110430ea3af2e8ca72d63026738f8122"), looks := true }, kinds := [], alts := [], laidByText := true, laidKinds := [.data, .pinned], laidTests := true, laidLooks := .later }
def RefsLookUptoCardSaid : Prop := Claim7.holds Tryd.pinned (.plain (OpenSpec.upto refsLookSpec)) refsLookUptoCard

/-- THE SECOND FORM's CARD OF 'variorumlaw20.RefsKept'. -/
def refsKeptUptoCard : Claim7 := { stood := { row := refsKeptUptoRow, standIns := [], harness := (true, "e850863e14f1fc74417acc9468c0c753110430ea3af2e8ca72d63026738f8122"), looks := true }, kinds := [], alts := [], laidByText := true, laidKinds := [.data, .pinned], laidTests := true, laidLooks := .later }
def RefsKeptUptoCardSaid : Prop := Claim7.holds Tryd.pinned (.plain (OpenSpec.upto refsKeptSpec)) refsKeptUptoCard

/-- THE SECOND FORM's CARD OF 'variorumlaw20.RefsBack'. -/
def refsBackUptoCard : Claim7 := { stood := { row := refsBackUptoRow, standIns := [], harness := (true, "e850863e14f1fc74417acc9468c0c753110430ea3af2e8ca72d63026738f8122"), looks := true }, kinds := [], alts := [], laidByText := true, laidKinds := [.data, .pinned], laidTests := true, laidLooks := .later }
def RefsBackUptoCardSaid : Prop := Claim7.holds Tryd.pinned (.plain (OpenSpec.upto refsBackSpec)) refsBackUptoCard
end Rows
end Go.Proofs.YtmonlobfofkbdaaDoor
