/-
  DERIVED. GIVEN WITH THE SEED: THE CARDS: each row of YtejpjjhkjdpeaaaGreatDoorRows.lean that lists a variable, with what it lists TIED to the program's text (the seventh form; the later family's looks); each row that meets fmt, with fmt's text TOLD by the authors' own Lean function (tested against real Go, not proved from fmt's source: count such statements apart). THE CARD IS WHAT COUNTS. Prove the row's statement (the work); the ties are given (YtejpjjhkjdpeaaaGreatDoorTie.lean); close each card by the builder's one call (the guide's Derived/Test/ToyasCard.lean, 'card_holds'). Laid BY PROGRAM, IN A SANDBOX (cutbox-door.mjs). By AI agents, Wed Nov 11 2026. No macro, syntax, notation, axiom, sorry.
-/
import Derived.Test.YtejpjjhkjdpeaaaGreatDoorRows
import GoSem.ClaimSeven
namespace Go.Proofs.YtejpjjhkjdpeaaaGreatDoor
namespace Rows

/-- THE TIED CARD OF 'variorumlaw09.LoosePlays'. -/
def loosePlaysCard : Claim7 := { stood := { row := loosePlaysRow, standIns := [], harness := (true, "20cf7b4aa41916ac5eaff2eed6a0a08d8a7888ef1fa5d216aace06a6bbd1d121"), looks := true }, kinds := [], alts := [], laidByText := true, laidKinds := [.data, .data], laidTests := true, laidLooks := .later }
def LoosePlaysCardSaid : Prop := Claim7.holds Tryz.pinned (.plain (OpenSpec.ofChange loosePlaysSpec)) loosePlaysCard

/-- THE SECOND FORM's CARD OF 'variorumlaw09.LoosePlays'. -/
def loosePlaysUptoCard : Claim7 := { stood := { row := loosePlaysUptoRow, standIns := [], harness := (true, "20cf7b4aa41916ac5eaff2eed6a0a08d8a7888ef1fa5d216aace06a6bbd1d121"), looks := true }, kinds := [], alts := [], laidByText := true, laidKinds := [.data, .data], laidTests := true, laidLooks := .later }
def LoosePlaysUptoCardSaid : Prop := Claim7.holds Tryz.pinned (.plain (OpenSpec.upto loosePlaysSpec)) loosePlaysUptoCard
end Rows
end Go.Proofs.YtejpjjhkjdpeaaaGreatDoor
