/-
  DERIVED. GIVEN WITH THE SEED: THE CARDS: each row of YtcegdjpdnlaleaaDoorRows.lean that lists a variable, with what it lists TIED to the program's text (the seventh form; the later family's looks); each row that meets fmt, with fmt's text TOLD by the authors' own Lean function (tested against real Go, not proved from fmt's source: count such statements apart). THE CARD IS WHAT COUNTS. Prove the row's statement (the work); the ties are given (YtcegdjpdnlaleaaDoorTie.lean); close each card by the builder's one call (the guide's Derived/Test/ToyasCard.lean, 'card_holds'). Laid BY PROGRAM, IN A SANDBOX (cutbox-door.mjs). By AI agents, Wed Nov 11 2026. No macro, syntax, notation, axiom, sorry.
-/
import Derived.Test.YtcegdjpdnlaleaaDoorRows
import GoSem.ClaimSeven
namespace Go.Proofs.YtcegdjpdnlaleaaDoor
namespace Rows

/-- THE TIED CARD OF 'variorumlaw11.PackBuilds'. -/
def packBuildsCard : Claim7 := { stood := { row := packBuildsRow, standIns := [], harness := (true, "646e9c4a6c7f759191f20d32d7ba64e4b661181619113daf859bdf8f339fc2eb"), looks := true }, kinds := [], alts := [], laidByText := true, laidKinds := [.data, .data], laidTests := true, laidLooks := .later }
def PackBuildsCardSaid : Prop := Claim7.holds Tryd.pinned (.plain (OpenSpec.ofChange packBuildsSpec)) packBuildsCard

/-- THE TIED CARD OF 'variorumlaw11.PackBack'. -/
def packBackCard : Claim7 := { stood := { row := packBackRow, standIns := [], harness := (true, "646e9c4a6c7f759191f20d32d7ba64e4b661181619113daf859bdf8f339fc2eb"), looks := true }, kinds := [], alts := [], laidByText := true, laidKinds := [.data, .data], laidTests := true, laidLooks := .later }
def PackBackCardSaid : Prop := Claim7.holds Tryd.pinned (.plain (OpenSpec.ofChange packBackSpec)) packBackCard

/-- THE TIED CARD OF 'variorumlaw11.PackOpens'. -/
def packOpensCard : Claim7 := { stood := { row := packOpensRow, standIns := [], harness := (true, "646e9c4a6c7f759191f20d32d7ba64e4b661181619113daf859bdf8f339fc2eb"), looks := true }, kinds := [], alts := [], laidByText := true, laidKinds := [.data, .data], laidTests := true, laidLooks := .later }
def PackOpensCardSaid : Prop := Claim7.holds Tryd.pinned (.plain (OpenSpec.ofChange packOpensSpec)) packOpensCard

/-- THE TIED CARD OF 'variorumlaw11.PackSealed'. -/
def packSealedCard : Claim7 := { stood := { row := packSealedRow, standIns := [], harness := (true, "646e9c4a6c7f759191f20d32d7ba64e4b661181619113daf859bdf8f339fc2eb"), looks := true }, kinds := [], alts := [], laidByText := true, laidKinds := [.data, .data], laidTests := true, laidLooks := .later }
def PackSealedCardSaid : Prop := Claim7.holds Tryd.pinned (.plain (OpenSpec.ofChange packSealedSpec)) packSealedCard

/-- THE TIED CARD OF 'variorumlaw11.PackTrue'. -/
def packTrueCard : Claim7 := { stood := { row := packTrueRow, standIns := [], harness := (true, "646e9c4a6c7f759191f20d32d7ba64e4b661181619113daf859bdf8f339fc2eb"), looks := true }, kinds := [], alts := [], laidByText := true, laidKinds := [.data, .data], laidTests := true, laidLooks := .later }
def PackTrueCardSaid : Prop := Claim7.holds Tryd.pinned (.plain (OpenSpec.ofChange packTrueSpec)) packTrueCard

/-- THE TIED CARD OF 'variorumlaw11.PackNone'. -/
def packNoneCard : Claim7 := { stood := { row := packNoneRow, standIns := [], harness := (true, "646e9c4a6c7f759191f20d32d7ba64e4b661181619113daf859bdf8f339fc2eb"), looks := true }, kinds := [], alts := [], laidByText := true, laidKinds := [.data, .data], laidTests := true, laidLooks := .later }
def PackNoneCardSaid : Prop := Claim7.holds Tryd.pinned (.plain (OpenSpec.ofChange packNoneSpec)) packNoneCard

/-- THE TIED CARD OF 'variorumlaw11.PackApart'. -/
def packApartCard : Claim7 := { stood := { row := packApartRow, standIns := [], harness := (true, "646e9c4a6c7f759191f20d32d7ba64e4b661181619113daf859bdf8f339fc2eb"), looks := true }, kinds := [], alts := [], laidByText := true, laidKinds := [.data, .data], laidTests := true, laidLooks := .later }
def PackApartCardSaid : Prop := Claim7.holds Tryd.pinned (.plain (OpenSpec.ofChange packApartSpec)) packApartCard

/-- THE SECOND FORM's CARD OF 'variorumlaw11.PackBuilds'. -/
def packBuildsUptoCard : Claim7 := { stood := { row := packBuildsUptoRow, standIns := [], harness := (true, "646e9c4a6c7f759191f20d32d7ba64e4b661181619113daf859bdf8f339fc2eb"), looks := true }, kinds := [], alts := [], laidByText := true, laidKinds := [.data, .data], laidTests := true, laidLooks := .later }
def PackBuildsUptoCardSaid : Prop := Claim7.holds Tryd.pinned (.plain (OpenSpec.upto packBuildsSpec)) packBuildsUptoCard

/-- THE SECOND FORM's CARD OF 'variorumlaw11.PackBack'. -/
def packBackUptoCard : Claim7 := { stood := { row := packBackUptoRow, standIns := [], harness := (true, "646e9c4a6c7f759191f20d32d7ba64e4b661181619113daf859bdf8f339fc2eb"), looks := true }, kinds := [], alts := [], laidByText := true, laidKinds := [.data, .data], laidTests := true, laidLooks := .later }
def PackBackUptoCardSaid : Prop := Claim7.holds Tryd.pinned (.plain (OpenSpec.upto packBackSpec)) packBackUptoCard

/-- THE SECOND FORM's CARD OF 'variorumlaw11.PackOpens'. -/
def packOpensUptoCard : Claim7 := { stood := { row := packOpensUptoRow, standIns := [], harness := (true, "646e9c4a6c7f759191f20d32d7ba64e4b661181619113daf859bdf8f339fc2eb"), looks := true }, kinds := [], alts := [], laidByText := true, laidKinds := [.data, .data], laidTests := true, laidLooks := .later }
def PackOpensUptoCardSaid : Prop := Claim7.holds Tryd.pinned (.plain (OpenSpec.upto packOpensSpec)) packOpensUptoCard

/-- THE SECOND FORM's CARD OF 'variorumlaw11.PackSealed'. -/
def packSealedUptoCard : Claim7 := { stood := { row := packSealedUptoRow, standIns := [], harness := (true, "646e9c4a6c7f759191f20d32d7ba64e4b661181619113daf859bdf8f339fc2eb"), looks := true }, kinds := [], alts := [], laidByText := true, laidKinds := [.data, .data], laidTests := true, laidLooks := .later }
def PackSealedUptoCardSaid : Prop := Claim7.holds Tryd.pinned (.plain (OpenSpec.upto packSealedSpec)) packSealedUptoCard

/-- THE SECOND FORM's CARD OF 'variorumlaw11.PackTrue'. -/
def packTrueUptoCard : Claim7 := { stood := { row := packTrueUptoRow, standIns := [], harness := (true, "646e9c4a6c7f759191f20d32d7ba64e4b661181619113daf859bdf8f339fc2eb"), looks := true }, kinds := [], alts := [], laidByText := true, laidKinds := [.data, .data], laidTests := true, laidLooks := .later }
def PackTrueUptoCardSaid : Prop := Claim7.holds Tryd.pinned (.plain (OpenSpec.upto packTrueSpec)) packTrueUptoCard

/-- THE SECOND FORM's CARD OF 'variorumlaw11.PackNone'. -/
def packNoneUptoCard : Claim7 := { stood := { row := packNoneUptoRow, standIns := [], harness := (true, "646e9c4a6c7f759191f20d32d7ba64e4b661181619113daf859bdf8f339fc2eb"), looks := true }, kinds := [], alts := [], laidByText := true, laidKinds := [.data, .data], laidTests := true, laidLooks := .later }
def PackNoneUptoCardSaid : Prop := Claim7.holds Tryd.pinned (.plain (OpenSpec.upto packNoneSpec)) packNoneUptoCard

/-- THE SECOND FORM's CARD OF 'variorumlaw11.PackApart'. -/
def packApartUptoCard : Claim7 := { stood := { row := packApartUptoRow, standIns := [], harness := (true, "646e9c4a6c7f759191f20d32d7ba64e4b661181619113daf859bdf8f339fc2eb"), looks := true }, kinds := [], alts := [], laidByText := true, laidKinds := [.data, .data], laidTests := true, laidLooks := .later }
def PackApartUptoCardSaid : Prop := Claim7.holds Tryd.pinned (.plain (OpenSpec.upto packApartSpec)) packApartUptoCard
end Rows
end Go.Proofs.YtcegdjpdnlaleaaDoor
