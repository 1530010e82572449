/-
  DERIVED. GIVEN WITH THE SEED: THE CARDS: each row of YtfpekahfdalfkaaGreatDoorRows.lean that lists a variable, with what it lists TIED to the program's text (the seventh form; the later family's looks); each row that meets fmt, with fmt's text TOLD by the authors' own Lean function (tested against real Go, not proved from fmt's source: count such statements apart). THE CARD IS WHAT COUNTS. Prove the row's statement (the work); the ties are given (YtfpekahfdalfkaaGreatDoorTie.lean); close each card by the builder's one call (the guide's Derived/Test/ToyasCard.lean, 'card_holds'). Laid BY PROGRAM, IN A SANDBOX (cutbox-door.mjs). By AI agents, Wed Nov 11 2026. No macro, syntax, notation, axiom, sorry.
-/
import Derived.Test.YtfpekahfdalfkaaGreatDoorRows
import GoSem.ClaimSeven
namespace Go.Proofs.YtfpekahfdalfkaaGreatDoor
namespace Rows

/-- THE TIED CARD OF 'variorumlaw22.VaultPlans'. -/
def vaultPlansCard : Claim7 := { stood := { row := vaultPlansRow, standIns := [], harness := (true, "0837633cda7500ddaaf16b661beb6ea0620f977187f4082a43e76c0ecb13e36c"), looks := true }, kinds := [], alts := [], laidByText := true, laidKinds := [.data, .data], laidTests := true, laidLooks := .later }
def VaultPlansCardSaid : Prop := Claim7.holds Tryz.pinned (.plain (OpenSpec.ofChange vaultPlansSpec)) vaultPlansCard

/-- THE TIED CARD OF 'variorumlaw22.VaultNil'. -/
def vaultNilCard : Claim7 := { stood := { row := vaultNilRow, standIns := [], harness := (true, "0837633cda7500ddaaf16b661beb6ea0620f977187f4082a43e76c0ecb13e36c"), looks := true }, kinds := [], alts := [], laidByText := true, laidKinds := [.data, .data], laidTests := true, laidLooks := .later }
def VaultNilCardSaid : Prop := Claim7.holds Tryz.pinned (.plain (OpenSpec.ofChange vaultNilSpec)) vaultNilCard

/-- THE TIED CARD OF 'variorumlaw22.VaultJust'. -/
def vaultJustCard : Claim7 := { stood := { row := vaultJustRow, standIns := [], harness := (true, "0837633cda7500ddaaf16b661beb6ea0620f977187f4082a43e76c0ecb13e36c"), looks := true }, kinds := [], alts := [], laidByText := true, laidKinds := [.data, .data], laidTests := true, laidLooks := .later }
def VaultJustCardSaid : Prop := Claim7.holds Tryz.pinned (.plain (OpenSpec.ofChange vaultJustSpec)) vaultJustCard

/-- THE TIED CARD OF 'variorumlaw22.VaultFull'. -/
def vaultFullCard : Claim7 := { stood := { row := vaultFullRow, standIns := [], harness := (true, "0837633cda7500ddaaf16b661beb6ea0620f977187f4082a43e76c0ecb13e36c"), looks := true }, kinds := [], alts := [], laidByText := true, laidKinds := [.data, .data], laidTests := true, laidLooks := .later }
def VaultFullCardSaid : Prop := Claim7.holds Tryz.pinned (.plain (OpenSpec.ofChange vaultFullSpec)) vaultFullCard

/-- THE TIED CARD OF 'variorumlaw22.VaultPlays'. -/
def vaultPlaysCard : Claim7 := { stood := { row := vaultPlaysRow, standIns := [], harness := (true, "0837633cda7500ddaaf16b661beb6ea0620f977187f4082a43e76c0ecb13e36c"), looks := true }, kinds := [], alts := [], laidByText := true, laidKinds := [.data, .data], laidTests := true, laidLooks := .later }
def VaultPlaysCardSaid : Prop := Claim7.holds Tryz.pinned (.plain (OpenSpec.ofChange vaultPlaysSpec)) vaultPlaysCard

/-- THE TIED CARD OF 'variorumlaw22.VaultKept'. -/
def vaultKeptCard : Claim7 := { stood := { row := vaultKeptRow, standIns := [], harness := (true, "0837633cda7500ddaaf16b661beb6ea0620f977187f4082a43e76c0ecb13e36c"), looks := true }, kinds := [], alts := [], laidByText := true, laidKinds := [.data, .data], laidTests := true, laidLooks := .later }
def VaultKeptCardSaid : Prop := Claim7.holds Tryz.pinned (.plain (OpenSpec.ofChange vaultKeptSpec)) vaultKeptCard

/-- THE SECOND FORM's CARD OF 'variorumlaw22.VaultPlans'. -/
def vaultPlansUptoCard : Claim7 := { stood := { row := vaultPlansUptoRow, standIns := [], harness := (true, "0837633cda7500ddaaf16b661beb6ea0620f977187f4082a43e76c0ecb13e36c"), looks := true }, kinds := [], alts := [], laidByText := true, laidKinds := [.data, .data], laidTests := true, laidLooks := .later }
def VaultPlansUptoCardSaid : Prop := Claim7.holds Tryz.pinned (.plain (OpenSpec.upto vaultPlansSpec)) vaultPlansUptoCard

/-- THE SECOND FORM's CARD OF 'variorumlaw22.VaultNil'. -/
def vaultNilUptoCard : Claim7 := { stood := { row := vaultNilUptoRow, standIns := [], harness := (true, "0837633cda7500ddaaf16b661beb6ea0620f977187f4082a43e76c0ecb13e36c"), looks := true }, kinds := [], alts := [], laidByText := true, laidKinds := [.data, .data], laidTests := true, laidLooks := .later }
def VaultNilUptoCardSaid : Prop := Claim7.holds Tryz.pinned (.plain (OpenSpec.upto vaultNilSpec)) vaultNilUptoCard

/-- THE SECOND FORM's CARD OF 'variorumlaw22.VaultJust'. -/
def vaultJustUptoCard : Claim7 := { stood := { row := vaultJustUptoRow, standIns := [], harness := (true, "0837633cda7500ddaaf16b661beb6ea0620f977187f4082a43e76c0ecb13e36c"), looks := true }, kinds := [], alts := [], laidByText := true, laidKinds := [.data, .data], laidTests := true, laidLooks := .later }
def VaultJustUptoCardSaid : Prop := Claim7.holds Tryz.pinned (.plain (OpenSpec.upto vaultJustSpec)) vaultJustUptoCard

/-- THE SECOND FORM's CARD OF 'variorumlaw22.VaultFull'. -/
def vaultFullUptoCard : Claim7 := { stood := { row := vaultFullUptoRow, standIns := [], harness := (true, "0837633cda7500ddaaf16b661beb6ea0620f977187f4082a43e76c0ecb13e36c"), looks := true }, kinds := [], alts := [], laidByText := true, laidKinds := [.data, .data], laidTests := true, laidLooks := .later }
def VaultFullUptoCardSaid : Prop := Claim7.holds Tryz.pinned (.plain (OpenSpec.upto vaultFullSpec)) vaultFullUptoCard

/-- THE SECOND FORM's CARD OF 'variorumlaw22.VaultPlays'. -/
def vaultPlaysUptoCard : Claim7 := { stood := { row := vaultPlaysUptoRow, standIns := [], harness := (true, "0837633cda7500ddaaf16b661beb6ea0620f977187f4082a43e76c0ecb13e36c"), looks := true }, kinds := [], alts := [], laidByText := true, laidKinds := [.data, .data], laidTests := true, laidLooks := .later }
def VaultPlaysUptoCardSaid : Prop := Claim7.holds Tryz.pinned (.plain (OpenSpec.upto vaultPlaysSpec)) vaultPlaysUptoCard

/-- THE SECOND FORM's CARD OF 'variorumlaw22.VaultKept'. -/
def vaultKeptUptoCard : Claim7 := { stood := { row := vaultKeptUptoRow, standIns := [], harness := (true, "0837633cda7500ddaaf16b661beb6ea0620f977187f4082a43e76c0ecb13e36c"), looks := true }, kinds := [], alts := [], laidByText := true, laidKinds := [.data, .data], laidTests := true, laidLooks := .later }
def VaultKeptUptoCardSaid : Prop := Claim7.holds Tryz.pinned (.plain (OpenSpec.upto vaultKeptSpec)) vaultKeptUptoCard
end Rows
end Go.Proofs.YtfpekahfdalfkaaGreatDoor
